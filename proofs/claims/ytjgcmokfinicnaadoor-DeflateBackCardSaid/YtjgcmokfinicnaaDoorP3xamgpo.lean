/- Printed by a program of mine: each Go function answers what its model answers; conditions: what each theorem asks of memory. -/
import Derived.Test.YtjgcmokfinicnaaDoorP2xmiaih
set_option linter.unusedVariables false
set_option linter.unusedSimpArgs false
set_option maxRecDepth 100000
namespace Go.TrydS
open Go Go.Sl Go.Mo Go.Proofs
attribute [local irreducible] qN.wp
theorem uo {H : xU} {F : List qm} {w : World} {R : Ending → World → Prop} {kr : Unit → Prop} {kp : Value → Prop} (hG : Gl H) (K : Nat) (LB : xo) (LC : Int) (LD : Nat) (LH : qm) (LJ : Nat) (LI : qm) (LE : xZ LH LD ([yb LB.text_, .map (some LJ)]) 90) (LP : Xn (U9 .u8) (Kb 3) 3 (ci .i64) 1 LJ LB.seen_ LI)
    (hS : St w H [LH, LI] F) (hm : (yy.m K LB LC).wp kr kp)
    (hret : ∀ (w : World), kr () → St w H [LH, LI] F → R (.returned (.agg ⟨([((rd LB.text_ LC).toNat : Int), ((rd LB.text_ (qi (LC + (1 : Int)))).toNat : Int), ((rd LB.text_ (qi (LC + (2 : Int)))).toNat : Int)] : List Int).flatMap (ci .u8)⟩)) w) :
    Calls Tryd.prog 66 ⟨[qO LD 0, .int .i64 LC]⟩ w R := by
 refine enter Tryd.func66 rfl Tryd.ntmps66 rfl hS fun a w hS => ?_
 have hM := hm; clear hm
 rw [yy.m] at hM
 refine qk <| QJ ((List.replicate 3 (0 : Int)).flatMap (ci .u8)) hS Tryd.zeroValue126 rfl rfl fun w LG LQ LK hS => qz <| wp_seq ?_
 obtain ⟨LL, hM⟩ := qE hM
 obtain ⟨LM, hM⟩ := qE hM
 obtain ⟨LN, hM⟩ := qE hM
 refine zh (vals := [some (qO LD 0), some (qO LD 0), some (qO LD 0), some (yb LB.text_), some (.int .i64 LC), some (.int .u8 ((rd LB.text_ LC).toNat : Int)), some (qO LD 0), some (qO LD 0), some (qO LD 0), some (yb LB.text_), some (.int .i64 LC), some (.int .i64 (qi (LC + (1 : Int)))), some (.int .u8 ((rd LB.text_ (qi (LC + (1 : Int)))).toNat : Int)), some (qO LD 0), some (qO LD 0), some (qO LD 0), some (yb LB.text_), some (.int .i64 LC), some (.int .i64 (qi (LC + (2 : Int)))), some (.int .u8 ((rd LB.text_ (qi (LC + (2 : Int)))).toNat : Int)), some (.agg ⟨([((rd LB.text_ LC).toNat : Int), ((rd LB.text_ (qi (LC + (1 : Int)))).toNat : Int), ((rd LB.text_ (qi (LC + (2 : Int)))).toNat : Int)] : List Int).flatMap (ci .u8)⟩), none]) hS xH rfl ?_
 intro l w ho hcl hA hst
 refine jQ hA hst ho hcl xQ xI 21 [0, 1, 2, 3, 4, 5, 6, 7, 8, 9, 10, 11, 12, 13, 14, 15, 16, 17, 18, 19, 20] rfl rfl rfl rfl rfl (by exact ⟨nM rfl, nQ rfl (by exact qY (yu rfl) rfl), nQ rfl (by exact qY (xr rfl Tryd.runUnderlying90 rfl Tryd.sizeOf9 rfl) rfl), nQ rfl (by exact qY (xW 1 rfl LE rfl rfl Tryd.isAgg9) rfl), nM rfl, nQ rfl (by exact qY (KE rfl rfl Tryd.runUnderlying9 LL) rfl), nM rfl, nQ rfl (by exact qY (yu rfl) rfl), nQ rfl (by exact qY (xr rfl Tryd.runUnderlying90 rfl Tryd.sizeOf9 rfl) rfl), nQ rfl (by exact qY (xW 1 rfl LE rfl rfl Tryd.isAgg9) rfl), nM rfl, nB rfl, nQ rfl (by exact qY (KE rfl rfl Tryd.runUnderlying9 LM) rfl), nM rfl, nQ rfl (by exact qY (yu rfl) rfl), nQ rfl (by exact qY (xr rfl Tryd.runUnderlying90 rfl Tryd.sizeOf9 rfl) rfl), nQ rfl (by exact qY (xW 1 rfl LE rfl rfl Tryd.isAgg9) rfl), nM rfl, nB rfl, nQ rfl (by exact qY (KE rfl rfl Tryd.runUnderlying9 LN) rfl), nQ rfl (by exact qY (DC (([((rd LB.text_ LC).toNat : Int), ((rd LB.text_ (qi (LC + (1 : Int)))).toNat : Int), ((rd LB.text_ (qi (LC + (2 : Int)))).toNat : Int)] : List Int).flatMap (ci .u8)) Tryd.zeroValue126 Tryd.runUnderlying126 Tryd.sizeOf5 rfl (by kernel_rfl)) rfl), trivial⟩) fun D l a w ho hcl hav hpre hm hE hk hA hst => ?_
 have hS := (Ss.mk hE hst).env2 (e' := [(4, qO LG 0), (25, .agg ⟨([((rd LB.text_ LC).toNat : Int), ((rd LB.text_ (qi (LC + (1 : Int)))).toNat : Int), ((rd LB.text_ (qi (LC + (2 : Int)))).toNat : Int)] : List Int).flatMap (ci .u8)⟩)]) ⟨rfl, rfl, trivial⟩
 refine zi rfl <| Jl (xs := (List.replicate 3 (0 : Int))) (ys := ([((rd LB.text_ LC).toNat : Int), ((rd LB.text_ (qi (LC + (1 : Int)))).toNat : Int), ((rd LB.text_ (qi (LC + (2 : Int)))).toNat : Int)] : List Int)) (g := (ci .u8)) (pre := []) (post := []) 0 hS rfl rfl LK rfl (by simp) rfl (xx (g := (ci .u8)) (sz := 1) (fun _ => rfl) (List.length_replicate ..)) (xx (g := (ci .u8)) (sz := 1) (fun _ => rfl) rfl) (uA) Tryd.sizeOf126 fun w LO LF hS => ?_
 replace LF : xZ LO LG (([((rd LB.text_ LC).toNat : Int), ((rd LB.text_ (qi (LC + (1 : Int)))).toNat : Int), ((rd LB.text_ (qi (LC + (2 : Int)))).toNat : Int)] : List Int).flatMap (ci .u8)) 126 := by simpa using LF
 refine qz ?_
 replace hst := hS.st
 obtain ⟨hcl, hmust, hav2, hA⟩ := Jy (vals' := [some (qO LD 0), some (qO LD 0), some (qO LD 0), some (yb LB.text_), some (.int .i64 LC), some (.int .u8 ((rd LB.text_ LC).toNat : Int)), some (qO LD 0), some (qO LD 0), some (qO LD 0), some (yb LB.text_), some (.int .i64 LC), some (.int .i64 (qi (LC + (1 : Int)))), some (.int .u8 ((rd LB.text_ (qi (LC + (1 : Int)))).toNat : Int)), some (qO LD 0), some (qO LD 0), some (qO LD 0), some (yb LB.text_), some (.int .i64 LC), some (.int .i64 (qi (LC + (2 : Int)))), some (.int .u8 ((rd LB.text_ (qi (LC + (2 : Int)))).toNat : Int)), some (.agg ⟨([((rd LB.text_ LC).toNat : Int), ((rd LB.text_ (qi (LC + (1 : Int)))).toNat : Int), ((rd LB.text_ (qi (LC + (2 : Int)))).toNat : Int)] : List Int).flatMap (ci .u8)⟩), some undef]) 21 [(0, 21), (1, 21), (2, 21), (3, 21), (4, 21), (5, 21), (6, 21), (7, 21), (8, 21), (9, 21), (10, 21), (11, 21), (12, 21), (13, 21), (14, 21), (15, 21), (16, 21), (17, 21), (18, 21), (19, 21), (20, 21)] hA hcl hav hm hpre rfl rfl rfl rfl rfl
 clear hm hav
 refine yo hA hst ho hcl hmust [] rfl rfl rfl trivial fun a w hS => ?_
 replace hS := hS.env2 (e' := [(4, qO LG 0)]) ⟨rfl, trivial⟩
 refine qc <| wp_ret ?_
 exact yB (vs := [.agg ⟨([((rd LB.text_ LC).toNat : Int), ((rd LB.text_ (qi (LC + (1 : Int)))).toNat : Int), ((rd LB.text_ (qi (LC + (2 : Int)))).toNat : Int)] : List Int).flatMap (ci .u8)⟩]) hS rfl (by exact ⟨GE 0 rfl LF rfl (xx (g := (ci .u8)) (sz := 1) (fun _ => rfl) rfl) Tryd.isAgg126 Tryd.sizeOf126, trivial⟩) (hret _ (qU hM) (hS.st.pick [1, 2] (by kernel_rfl)))
theorem QM {H : xU} {F : List qm} {w : World} {R : Ending → World → Prop} {kr : Int → Prop} {kp : Value → Prop} (hG : Gl H) (K : Nat) (LC : xo) (LE : Int) (LD : Int) (LF : Nat) (LI : qm) (LO : Nat) (LJ : qm) (LG : xZ LI LF ([yb LC.text_, .map (some LO)]) 90) (LV : Xn (U9 .u8) (Kb 3) 3 (ci .i64) 1 LO LC.seen_ LJ)
    (hS : St w H [LI, LJ] F) (hm : (zF.m K LC LE LD).wp kr kp)
    (hret : ∀ (LP : Int) (w : World), kr LP → St w H [LI, LJ] F → R (.returned (.int .i64 LP)) w) :
    Calls Tryd.prog 67 ⟨[qO LF 0, .int .i64 LE, .int .i64 LD]⟩ w R := by
 refine enter Tryd.func67 rfl Tryd.ntmps67 rfl hS fun a w hS => ?_
 have hM := hm; clear hm
 rw [zF.m] at hM
 refine qk <| sA hS rfl fun hS => qz <| qk <| sA hS rfl fun hS => qz <| wp_seq <| xJ <| zv (fun LM a w => ∃ (LB : Int), Ss 43 [] [(0, qO LF 0), (1, .int .i64 LE), (2, .int .i64 LD), (7, .int .i64 LB)] H [LI, LJ] F a w ∧ (zF.l1 K LC LE LD LM LB).wp kr kp) K ?_ ?_ ?_
 ·exact ⟨(0 : Int), hS.to [0, 1] (by kernel_rfl) ⟨rfl, rfl, rfl, rfl, trivial⟩, hM⟩
 ·intro a w hI; obtain ⟨_, _, hM⟩ := hI; exact zr hM
 ·intro LM a w hI LX LQ
  obtain ⟨LB, hS, hM⟩ := hI
  rw [zF.l1] at hM
  refine wp_seq <| zx (fun a w => ∃ (LN : Bool), Ss 43 [] [(0, qO LF 0), (1, .int .i64 LE), (2, .int .i64 LD), (7, .int .i64 LB), (39, .bool LN)] H [LI, LJ] F a w ∧ (zF.j2 K (zF.l1 K LC LE LD LM) LB LN).wp kr kp) (fun LW LK => ?_) ?_
  ·refine UM (b := (decide (LB < (258 : Int)))) hM (fun LH hM => ?_) (fun LH hM => ?_)
   ·refine UM (b := (decide ((qi (LD + LB)) < (LC.text_.length : Int)))) hM (fun LL hM => ?_) (fun LL hM => ?_)
    ·obtain ⟨LS, hM⟩ := qE hM
     obtain ⟨LT, hM⟩ := qE hM
     refine zh (vals := [some (.int .i64 LB), some (.bool true), some (.bool true), some (.int .i64 LD), some (.int .i64 LB), some (.int .i64 (qi (LD + LB))), some (qO LF 0), some (qO LF 0), some (qO LF 0), some (yb LC.text_), some (.int .i64 (LC.text_.length : Int)), some (.bool true), some (.bool true), some (.bool true), some (qO LF 0), some (qO LF 0), some (qO LF 0), some (yb LC.text_), some (.int .i64 LE), some (.int .i64 LB), some (.int .i64 (qi (LE + LB))), some (.int .u8 ((rd LC.text_ (qi (LE + LB))).toNat : Int)), some (qO LF 0), some (qO LF 0), some (qO LF 0), some (yb LC.text_), some (.int .i64 LD), some (.int .i64 LB), some (.int .i64 (qi (LD + LB))), some (.int .u8 ((rd LC.text_ (qi (LD + LB))).toNat : Int)), some (.bool (((rd LC.text_ (qi (LE + LB))).toNat : Int) == ((rd LC.text_ (qi (LD + LB))).toNat : Int))), some (.bool (((rd LC.text_ (qi (LE + LB))).toNat : Int) == ((rd LC.text_ (qi (LD + LB))).toNat : Int)))]) hS xH rfl ?_
     intro l w ho hcl hA hst
     refine yo hA hst ho hcl xI [0, 1, 2, 3, 4, 5, 6, 7, 8, 9, 10, 11, 12, 13, 14, 15, 16, 17, 18, 19, 20, 21, 22, 23, 24, 25, 26, 27, 28, 29, 30, 31] rfl rfl rfl (by exact ⟨nM rfl, nQ rfl (by exact qY (yZ rfl rfl rfl) (congrArg Value.bool LH)), nM rfl, nW rfl rfl rfl rfl rfl rfl rfl rfl (by exact qY (mv rfl) rfl), nW rfl rfl rfl rfl rfl rfl rfl rfl (by exact qY (mv rfl) rfl), nW rfl rfl rfl rfl rfl rfl rfl rfl (by exact qY (yZ rfl rfl rfl) rfl), nW rfl rfl rfl rfl rfl rfl rfl rfl (by exact qY (mv rfl) rfl), nW rfl rfl rfl rfl rfl rfl rfl rfl (by exact qY (yu rfl) rfl), nW rfl rfl rfl rfl rfl rfl rfl rfl (by exact qY (xr rfl Tryd.runUnderlying90 rfl Tryd.sizeOf9 rfl) rfl), nW rfl rfl rfl rfl rfl rfl rfl rfl (by exact qY (xW 0 rfl LG rfl rfl Tryd.isAgg9) rfl), nW rfl rfl rfl rfl rfl rfl rfl rfl (by exact qY (v8 rfl Tryd.runUnderlying9) rfl), nW rfl rfl rfl rfl rfl rfl rfl rfl (by exact qY (yZ rfl rfl rfl) (congrArg Value.bool LL)), nQ rfl (by exact qY (pk rfl rfl rfl) rfl), nM rfl, nW rfl rfl rfl rfl rfl rfl rfl rfl (by exact qY (mv rfl) rfl), nW rfl rfl rfl rfl rfl rfl rfl rfl (by exact qY (yu rfl) rfl), nW rfl rfl rfl rfl rfl rfl rfl rfl (by exact qY (xr rfl Tryd.runUnderlying90 rfl Tryd.sizeOf9 rfl) rfl), nW rfl rfl rfl rfl rfl rfl rfl rfl (by exact qY (xW 0 rfl LG rfl rfl Tryd.isAgg9) rfl), nW rfl rfl rfl rfl rfl rfl rfl rfl (by exact qY (mv rfl) rfl), nW rfl rfl rfl rfl rfl rfl rfl rfl (by exact qY (mv rfl) rfl), nW rfl rfl rfl rfl rfl rfl rfl rfl (by exact qY (yZ rfl rfl rfl) rfl), nW rfl rfl rfl rfl rfl rfl rfl rfl (by exact qY (KE rfl rfl Tryd.runUnderlying9 LS) rfl), nW rfl rfl rfl rfl rfl rfl rfl rfl (by exact qY (mv rfl) rfl), nW rfl rfl rfl rfl rfl rfl rfl rfl (by exact qY (yu rfl) rfl), nW rfl rfl rfl rfl rfl rfl rfl rfl (by exact qY (xr rfl Tryd.runUnderlying90 rfl Tryd.sizeOf9 rfl) rfl), nW rfl rfl rfl rfl rfl rfl rfl rfl (by exact qY (xW 0 rfl LG rfl rfl Tryd.isAgg9) rfl), nW rfl rfl rfl rfl rfl rfl rfl rfl (by exact qY (mv rfl) rfl), nW rfl rfl rfl rfl rfl rfl rfl rfl (by exact qY (mv rfl) rfl), nW rfl rfl rfl rfl rfl rfl rfl rfl (by exact qY (yZ rfl rfl rfl) rfl), nW rfl rfl rfl rfl rfl rfl rfl rfl (by exact qY (KE rfl rfl Tryd.runUnderlying9 LT) rfl), nW rfl rfl rfl rfl rfl rfl rfl rfl (by exact qY (yZ rfl rfl rfl) rfl), nQ rfl (by exact qY (pk rfl rfl rfl) rfl), trivial⟩) fun a w hS => ?_
     replace hS := hS.env2 (e' := [(0, qO LF 0), (1, .int .i64 LE), (2, .int .i64 LD), (7, .int .i64 LB), (39, .bool (((rd LC.text_ (qi (LE + LB))).toNat : Int) == ((rd LC.text_ (qi (LD + LB))).toNat : Int)))]) ⟨rfl, rfl, rfl, rfl, rfl, trivial⟩
     refine qc ?_
     exact LK _ _ ⟨(((rd LC.text_ (qi (LE + LB))).toNat : Int) == ((rd LC.text_ (qi (LD + LB))).toNat : Int)), hS.to [0, 1] (by kernel_rfl) ⟨rfl, rfl, rfl, rfl, rfl, trivial⟩, hM⟩
    ·refine zh (vals := [some (.int .i64 LB), some (.bool true), some (.bool true), some (.int .i64 LD), some (.int .i64 LB), some (.int .i64 (qi (LD + LB))), some (qO LF 0), some (qO LF 0), some (qO LF 0), some (yb LC.text_), some (.int .i64 (LC.text_.length : Int)), some (.bool false), some (.bool false), some (.bool false), some (undef), some (undef), some (undef), some (undef), some (undef), some (undef), some (undef), some (undef), some (undef), some (undef), some (undef), some (undef), some (undef), some (undef), some (undef), some (undef), some (undef), some (.bool false)]) hS xH rfl ?_
     intro l w ho hcl hA hst
     refine yo hA hst ho hcl xI [0, 1, 2, 3, 4, 5, 6, 7, 8, 9, 10, 11, 12, 13, 14, 15, 16, 17, 18, 19, 20, 21, 22, 23, 24, 25, 26, 27, 28, 29, 30, 31] rfl rfl rfl (by exact ⟨nM rfl, nQ rfl (by exact qY (yZ rfl rfl rfl) (congrArg Value.bool LH)), nM rfl, nW rfl rfl rfl rfl rfl rfl rfl rfl (by exact qY (mv rfl) rfl), nW rfl rfl rfl rfl rfl rfl rfl rfl (by exact qY (mv rfl) rfl), nW rfl rfl rfl rfl rfl rfl rfl rfl (by exact qY (yZ rfl rfl rfl) rfl), nW rfl rfl rfl rfl rfl rfl rfl rfl (by exact qY (mv rfl) rfl), nW rfl rfl rfl rfl rfl rfl rfl rfl (by exact qY (yu rfl) rfl), nW rfl rfl rfl rfl rfl rfl rfl rfl (by exact qY (xr rfl Tryd.runUnderlying90 rfl Tryd.sizeOf9 rfl) rfl), nW rfl rfl rfl rfl rfl rfl rfl rfl (by exact qY (xW 0 rfl LG rfl rfl Tryd.isAgg9) rfl), nW rfl rfl rfl rfl rfl rfl rfl rfl (by exact qY (v8 rfl Tryd.runUnderlying9) rfl), nW rfl rfl rfl rfl rfl rfl rfl rfl (by exact qY (yZ rfl rfl rfl) (congrArg Value.bool LL)), nQ rfl (by exact qY (pk rfl rfl rfl) rfl), nM rfl, nS rfl rfl rfl rfl rfl rfl rfl rfl rfl, nS rfl rfl rfl rfl rfl rfl rfl rfl rfl, nS rfl rfl rfl rfl rfl rfl rfl rfl rfl, nS rfl rfl rfl rfl rfl rfl rfl rfl rfl, nS rfl rfl rfl rfl rfl rfl rfl rfl rfl, nS rfl rfl rfl rfl rfl rfl rfl rfl rfl, nS rfl rfl rfl rfl rfl rfl rfl rfl rfl, nS rfl rfl rfl rfl rfl rfl rfl rfl rfl, nS rfl rfl rfl rfl rfl rfl rfl rfl rfl, nS rfl rfl rfl rfl rfl rfl rfl rfl rfl, nS rfl rfl rfl rfl rfl rfl rfl rfl rfl, nS rfl rfl rfl rfl rfl rfl rfl rfl rfl, nS rfl rfl rfl rfl rfl rfl rfl rfl rfl, nS rfl rfl rfl rfl rfl rfl rfl rfl rfl, nS rfl rfl rfl rfl rfl rfl rfl rfl rfl, nS rfl rfl rfl rfl rfl rfl rfl rfl rfl, nS rfl rfl rfl rfl rfl rfl rfl rfl rfl, nQ rfl (by exact qY (pk rfl rfl rfl) rfl), trivial⟩) fun a w hS => ?_
     replace hS := hS.env2 (e' := [(0, qO LF 0), (1, .int .i64 LE), (2, .int .i64 LD), (7, .int .i64 LB), (39, .bool false)]) ⟨rfl, rfl, rfl, rfl, rfl, trivial⟩
     refine qc ?_
     exact LK _ _ ⟨false, hS.to [0, 1] (by kernel_rfl) ⟨rfl, rfl, rfl, rfl, rfl, trivial⟩, hM⟩
   ·refine zh (vals := [some (.int .i64 LB), some (.bool false), some (.bool false), some (undef), some (undef), some (undef), some (undef), some (undef), some (undef), some (undef), some (undef), some (undef), some (.bool false), some (.bool false), some (undef), some (undef), some (undef), some (undef), some (undef), some (undef), some (undef), some (undef), some (undef), some (undef), some (undef), some (undef), some (undef), some (undef), some (undef), some (undef), some (undef), some (.bool false)]) hS xH rfl ?_
    intro l w ho hcl hA hst
    refine yo hA hst ho hcl xI [0, 1, 2, 3, 4, 5, 6, 7, 8, 9, 10, 11, 12, 13, 14, 15, 16, 17, 18, 19, 20, 21, 22, 23, 24, 25, 26, 27, 28, 29, 30, 31] rfl rfl rfl (by exact ⟨nM rfl, nQ rfl (by exact qY (yZ rfl rfl rfl) (congrArg Value.bool LH)), nM rfl, nS rfl rfl rfl rfl rfl rfl rfl rfl rfl, nS rfl rfl rfl rfl rfl rfl rfl rfl rfl, nS rfl rfl rfl rfl rfl rfl rfl rfl rfl, nS rfl rfl rfl rfl rfl rfl rfl rfl rfl, nS rfl rfl rfl rfl rfl rfl rfl rfl rfl, nS rfl rfl rfl rfl rfl rfl rfl rfl rfl, nS rfl rfl rfl rfl rfl rfl rfl rfl rfl, nS rfl rfl rfl rfl rfl rfl rfl rfl rfl, nS rfl rfl rfl rfl rfl rfl rfl rfl rfl, nQ rfl (by exact qY (pk rfl rfl rfl) rfl), nM rfl, nS rfl rfl rfl rfl rfl rfl rfl rfl rfl, nS rfl rfl rfl rfl rfl rfl rfl rfl rfl, nS rfl rfl rfl rfl rfl rfl rfl rfl rfl, nS rfl rfl rfl rfl rfl rfl rfl rfl rfl, nS rfl rfl rfl rfl rfl rfl rfl rfl rfl, nS rfl rfl rfl rfl rfl rfl rfl rfl rfl, nS rfl rfl rfl rfl rfl rfl rfl rfl rfl, nS rfl rfl rfl rfl rfl rfl rfl rfl rfl, nS rfl rfl rfl rfl rfl rfl rfl rfl rfl, nS rfl rfl rfl rfl rfl rfl rfl rfl rfl, nS rfl rfl rfl rfl rfl rfl rfl rfl rfl, nS rfl rfl rfl rfl rfl rfl rfl rfl rfl, nS rfl rfl rfl rfl rfl rfl rfl rfl rfl, nS rfl rfl rfl rfl rfl rfl rfl rfl rfl, nS rfl rfl rfl rfl rfl rfl rfl rfl rfl, nS rfl rfl rfl rfl rfl rfl rfl rfl rfl, nS rfl rfl rfl rfl rfl rfl rfl rfl rfl, nQ rfl (by exact qY (pk rfl rfl rfl) rfl), trivial⟩) fun a w hS => ?_
    replace hS := hS.env2 (e' := [(0, qO LF 0), (1, .int .i64 LE), (2, .int .i64 LD), (7, .int .i64 LB), (39, .bool false)]) ⟨rfl, rfl, rfl, rfl, rfl, trivial⟩
    refine qc ?_
    exact LK _ _ ⟨false, hS.to [0, 1] (by kernel_rfl) ⟨rfl, rfl, rfl, rfl, rfl, trivial⟩, hM⟩
  ·intro a w hI
   obtain ⟨LN, hS, hM⟩ := hI
   rw [zF.j2] at hM
   refine qy hS rfl hM (fun LR hM => ?_) (fun LR hM => ?_)
   ·refine wp_skip ?_
    refine qc <| xJ <| zI <| sM hS rfl fun hS => sB hS rfl fun hS => zH (v := Value.int .i64) (x0 := (qi (LB + (1 : Int)))) hS (xv rfl) rfl fun LU a w hz hS => ?_
    have hM := qB hz hM; clear hz
    refine zd <| zz (qc ?_)
    exact LQ _ _ ⟨LU, hS.to [0, 1] (by kernel_rfl) ⟨rfl, rfl, rfl, rfl, trivial⟩, hM⟩
   ·refine wp_exit ?_
    refine qC (qC (q9 (qc ?_)))
    refine qk <| sM hS rfl fun hS => sA hS rfl fun hS => qz <| wp_ret ?_
    exact zm (rs := [6]) hS rfl rfl (hret LB _ (qU hM) (hS.st.pick [0, 1] (by kernel_rfl)))
theorem QL {H : xU} {F : List qm} {w : World} {R : Ending → World → Prop} {kr : (Int × Int) → Prop} {kp : Value → Prop} (hG : Gl H) (K : Nat) (LC : xo) (LB : Int) (LE : Nat) (LK : qm) (LM : Nat) (LL : qm) (LO : xZ LK LE ([yb LC.text_, .map (some LM)]) 90) (LT : Xn (U9 .u8) (Kb 3) 3 (ci .i64) 1 LM LC.seen_ LL)
    (hS : St w H [LK, LL] F) (hm : (zW.m K LC LB).wp kr kp)
    (hret : ∀ (LX : Int) (LR : Int) (w : World), kr (LX, LR) → St w H [LK, LL] F → R (.returned (.agg ⟨[.int .u8 (0 : Int), .int .i64 LX, .int .i64 LR]⟩)) w) :
    Calls Tryd.prog 43 ⟨[qO LE 0, .int .i64 LB]⟩ w R := by
 refine enter Tryd.func43 rfl Tryd.ntmps43 rfl hS fun a w hS => ?_
 have hM := hm; clear hm
 rw [zW.m] at hM
 refine qk <| QJ ([.int .u8 (0 : Int), .int .i64 (0 : Int), .int .i64 (0 : Int)]) hS Tryd.zeroValue32 rfl rfl fun w L1 LW L4 hS => qz <| qk <| QJ ([.int .u8 (0 : Int), .int .i64 (0 : Int), .int .i64 (0 : Int)]) hS Tryd.zeroValue32 rfl rfl fun w LQ Ma L5 hS => qz <| wp_seq <| qk <| sM hS rfl fun hS => sB hS rfl fun hS => sM hS rfl fun hS => sO hS (yu rfl) rfl fun hS => sO hS (xr rfl Tryd.runUnderlying90 rfl Tryd.sizeOf9 rfl) rfl fun hS => sO hS (xW 2 rfl LO rfl rfl Tryd.isAgg9) rfl fun hS => sO hS (v8 rfl Tryd.runUnderlying9) rfl fun hS => sB hS rfl fun hS => qz <| qy hS rfl hM (fun Mg hM => ?_) (fun Mg hM => ?_)
 ·refine wp_seq ?_
  refine zI <| sO hS (vT 0 rfl L5 rfl ([.int .u8 (0 : Int), .int .i64 (0 : Int), .int .i64 (0 : Int)]) rfl rfl Tryd.isAgg32 Tryd.sizeOf32) rfl fun hS => u5 1 ([.int .u8 (0 : Int), .int .i64 (0 : Int), .int .i64 (0 : Int)]) ([.int .u8 (0 : Int), .int .i64 (0 : Int), .int .i64 (0 : Int)]) hS rfl rfl L4 rfl rfl Tryd.sizeOf32 (by simp [Value.oneCell']) (Nat.le_of_ble_eq_true rfl) rfl fun w Mp Mc hS => qz <| wp_ret <| qA ?_
  exact yB (vs := [.agg ⟨[.int .u8 (0 : Int), .int .i64 (0 : Int), .int .i64 (0 : Int)]⟩]) hS rfl (by exact ⟨Jp 1 ([.int .u8 (0 : Int), .int .i64 (0 : Int), .int .i64 (0 : Int)]) rfl Mc rfl rfl rfl Tryd.isAgg32 Tryd.sizeOf32, trivial⟩) (hret (0 : Int) (0 : Int) _ (qU hM) (hS.st.pick [2, 3] (by kernel_rfl)))
 ·refine wp_skip ?_
  refine qc <| wp_seq <| zh (vals := [some (qO LE 0), some (qO LE 0), some (qO LE 1), some (.map (some LM)), some (qO LE 0), some (.int .i64 LB), none, none, none]) hS xH rfl ?_
  intro l w ho hcl hA hst
  refine jQ hA hst ho hcl xQ xI 6 [0, 1, 2, 3, 4, 5] rfl rfl rfl rfl rfl (by exact ⟨nM rfl, nQ rfl (by exact qY (yu rfl) rfl), nQ rfl (by exact qY (xr rfl Tryd.runUnderlying90 rfl Tryd.sizeOf88 rfl) rfl), nQ rfl (by exact qY (xW 2 rfl LO rfl rfl Tryd.isAgg88) rfl), nM rfl, nM rfl, trivial⟩) fun D l a w ho hcl hav hpre hm hE hk hA hst => ?_
  have hS := (Ss.mk hE hst).env2 (e' := [(23, qO LE 0), (24, .int .i64 LB)]) ⟨rfl, rfl, trivial⟩
  refine zi rfl <| qK hS rfl Tryd.call66 (uo hG K LC LB LE LK LM LL LO LT (hS.st.part 2 [2, 3, 0, 1] (by kernel_rfl)) (qx hM) (fun  w hM  hst => qJ hS.ev hst.appF rfl fun hS => ?_))
  replace hS : Ss _ _ _ H [LK, LL, Ma, LW] F _ _ := hS
  refine qz ?_
  replace hst := hS.st
  obtain ⟨hcl, hmust, hav2, hA⟩ := dn (vals' := [some (qO LE 0), some (qO LE 0), some (qO LE 1), some (.map (some LM)), some (qO LE 0), some (.int .i64 LB), some (.agg ⟨([((rd LC.text_ LB).toNat : Int), ((rd LC.text_ (qi (LB + (1 : Int)))).toNat : Int), ((rd LC.text_ (qi (LB + (2 : Int)))).toNat : Int)] : List Int).flatMap (ci .u8)⟩), none, none]) 6 [(4, 6), (5, 6)] hA hcl hav hm hpre hk rfl rfl rfl rfl rfl rfl rfl
  clear hm hav
  refine jQ hA hst ho hcl hav2 hmust 7 [0, 1, 2, 3] rfl rfl rfl rfl rfl (by exact ⟨nM rfl, nQ rfl (by exact qY (yu rfl) rfl), nQ rfl (by exact qY (xr rfl Tryd.runUnderlying90 rfl Tryd.sizeOf88 rfl) rfl), nQ rfl (by exact qY (xW 0 rfl LO rfl rfl Tryd.isAgg88) rfl), trivial⟩) fun D l a w ho hcl hav hpre hm hE hk hA hst => ?_
  have hS := (Ss.mk hE hst).env2 (e' := [(22, .map (some LM)), (25, .agg ⟨([((rd LC.text_ LB).toNat : Int), ((rd LC.text_ (qi (LB + (1 : Int)))).toNat : Int), ((rd LC.text_ (qi (LB + (2 : Int)))).toNat : Int)] : List Int).flatMap (ci .u8)⟩)]) ⟨rfl, rfl, trivial⟩
  refine zi rfl <| Ln (kv := U9 .u8) (ok := Kb 3) (E := 3) (g := (ci .i64)) (sz := 1) (q := ([((rd LC.text_ LB).toNat : Int), ((rd LC.text_ (qi (LB + (1 : Int)))).toNat : Int), ((rd LC.text_ (qi (LB + (2 : Int)))).toNat : Int)] : List Int)) 1 hS rfl rfl rfl rfl LT rfl (KF Tryd.runUnderlying126 Tryd.runUnderlying5 Tryd.sizeOf5 Tryd.isAgg5) Tryd.runUnderlying88 Tryd.zeroValue45 (fun _ => rfl) rfl rfl fun LI LU LV w hz L9 Ml hS => ?_
  have hM := qB hz hM; clear hz
  refine qz ?_
  replace hst := hS.st
  obtain ⟨hcl, hmust, hav2, hA⟩ := dn (vals' := [some (qO LE 0), some (qO LE 0), some (qO LE 1), some (.map (some LM)), some (qO LE 0), some (.int .i64 LB), some (.agg ⟨([((rd LC.text_ LB).toNat : Int), ((rd LC.text_ (qi (LB + (1 : Int)))).toNat : Int), ((rd LC.text_ (qi (LB + (2 : Int)))).toNat : Int)] : List Int).flatMap (ci .u8)⟩), some (.slice LU LI.length LV), some (.slice LU LI.length LV)]) 7 [(3, 7), (6, 7), (2, 3), (4, 6), (5, 6), (1, 2), (0, 1)] hA hcl hav hm hpre hk rfl rfl rfl rfl rfl rfl rfl
  clear hm hav
  refine yo hA hst ho hcl hmust [8] rfl rfl rfl (by exact ⟨nA rfl, trivial⟩) fun a w hS => ?_
  replace hS := hS.env2 (e' := [(0, qO LE 0), (1, .int .i64 LB), (4, qO L1 0), (5, qO LQ 0), (6, .slice LU LI.length LV)]) ⟨rfl, rfl, rfl, rfl, rfl, trivial⟩
  refine qc <| zx (fun a w => ∃ (LG : Int) (LF : Int) (L3 : qm), Ss 63 [] [(4, qO L1 0), (5, qO LQ 0)] H [LK, LL, LW, L3] F a w ∧ (xZ L3 LQ ([.int .u8 (0 : Int), .int .i64 LG, .int .i64 LF]) 32) ∧ (zW.j2 K LG LF).wp kr kp) (fun Mn L7 => ?_) ?_
  ·refine wp_seq ?_
   refine zI <| sA hS rfl fun hS => qz <| xJ <| zv (fun Mb a w => ∃ (LJ : Int) (LH : Int) (LN : qm) (LD : Int), Ss 63 [] [(0, qO LE 0), (1, .int .i64 LB), (4, qO L1 0), (5, qO LQ 0), (6, .slice LU LI.length LV), (7, .int .i64 LD)] H [LK, LL, LW, LN] F a w ∧ (xZ LN LQ ([.int .u8 (0 : Int), .int .i64 LJ, .int .i64 LH]) 32) ∧ (zW.l1 K LC LB LI Mb LJ LH LD).wp kr kp) K ?_ ?_ ?_
   ·exact ⟨(0 : Int), (0 : Int), Ma, (0 : Int), hS.to [0, 1, 3, 2] (by kernel_rfl) ⟨rfl, rfl, rfl, rfl, rfl, rfl, trivial⟩, L5, hM⟩
   ·intro a w hI; obtain ⟨_, _, _, _, _, _, hM⟩ := hI; exact zr hM
   ·intro Mb a w hI Mm L6
    obtain ⟨LJ, LH, LN, LD, hS, LP, hM⟩ := hI
    rw [zW.l1] at hM
    refine wp_seq <| qk <| sM hS rfl fun hS => sB hS rfl fun hS => sM hS rfl fun hS => yw 4 true 29 (b := (decide (LD < (32 : Int)))) (r := (decide (LD < (LI.length : Int)))) hS rfl rfl rfl rfl rfl rfl rfl (fun hb a w hS K hK => ?_) rfl fun a w hS => ?_
    ·refine zK hS rfl rfl rfl hb (mv rfl) rfl fun a w hS => ?_
     refine zK hS rfl rfl rfl hb (mv rfl) rfl fun a w hS => zK hS rfl rfl rfl hb (ya rfl Tryd.runUnderlying45) rfl fun a w hS => zK hS rfl rfl rfl hb (yZ rfl rfl rfl) rfl fun a w hS => ?_
     exact zd (hK _ _ (hS.up 4 rfl rfl))
    refine qz <| qy hS rfl hM (fun Mh hM => ?_) (fun Mh hM => ?_)
    ·refine wp_skip ?_
     refine qc <| wp_seq <| xJ <| qk <| sM hS rfl fun hS => sM hS rfl fun hS => sO hS (ya rfl Tryd.runUnderlying45) rfl fun hS => sB hS rfl fun hS => sM hS rfl fun hS => sB hS rfl fun hS => ?_
     obtain ⟨L8, hM⟩ := qE hM
     refine sO hS (x6 rfl rfl Tryd.runUnderlying45 Tryd.sizeOf3 (L9.rd (i := 1) rfl) (fun _ => rfl) rfl L8) rfl fun hS => sO hS (x9 rfl (L9.rd (i := 1) rfl) (fun _ => rfl) L8 rfl Tryd.isAgg3) rfl fun hS => zH (v := Value.int .i64) (x0 := (rd LI (qi ((qi ((LI.length : Int) - (1 : Int))) - LD)))) hS (xv rfl) rfl fun LS a w hz hS => ?_
     have hM := qB hz hM; clear hz
     refine qz <| wp_seq <| qk <| sM hS rfl fun hS => sM hS rfl fun hS => sB hS rfl fun hS => sB hS rfl fun hS => qz <| qy hS rfl hM (fun Mi hM => ?_) (fun Mi hM => ?_)
     ·refine wp_exit ?_
      refine qC (DP rfl (qC (qC (q9 (qc ?_)))))
      exact L7 _ _ ⟨LJ, LH, LN, hS.to [0, 1, 2, 3] (by kernel_rfl) ⟨rfl, rfl, trivial⟩, LP, hM⟩
     ·refine wp_skip ?_
      refine qc <| qk <| sM hS rfl fun hS => sM hS rfl fun hS => sM hS rfl fun hS => qK hS rfl Tryd.call67 (QM hG K LC LS LB LE LK LM LL LO LT (hS.st.part 2 [0, 1, 2, 3] (by kernel_rfl)) (qx hM) (fun LY w hM  hst => qJ hS.ev hst.appF rfl fun hS => ?_))
      replace hS : Ss _ _ _ H [LK, LL, LW, LN] F _ _ := hS
      refine sA hS rfl fun hS => qz <| qk <| sM hS rfl fun hS => sO hS (xr rfl Tryd.runUnderlying32 rfl Tryd.sizeOf3 rfl) rfl fun hS => sO hS (xW 3 rfl LP rfl rfl Tryd.isAgg3) rfl fun hS => sB hS rfl fun hS => qz <| qy hS rfl hM (fun Mj hM => ?_) (fun Mj hM => ?_)
      ·refine zI ?_
       refine sM hS rfl fun hS => sM hS rfl fun hS => sM hS rfl fun hS => sB hS rfl fun hS => sO hS (Zq ([.int .u8 (0 : Int), .int .i64 LY, .int .i64 (qi (LB - LS))]) [(0, 1), (1, 1), (2, 1)] Tryd.zeroValue32 Tryd.runUnderlying32 (by intro w; simp [Tryd.sizeOf3, Tryd.sizeOf5]) rfl rfl) rfl fun hS => u5 3 ([.int .u8 (0 : Int), .int .i64 LY, .int .i64 (qi (LB - LS))]) ([.int .u8 (0 : Int), .int .i64 LY, .int .i64 (qi (LB - LS))]) hS rfl rfl LP rfl rfl Tryd.sizeOf32 (by simp [Value.oneCell']) (Nat.le_of_ble_eq_true rfl) rfl fun w Mk Md hS => zd <| zz (qc ?_)
       refine zI <| sM hS rfl fun hS => sB hS rfl fun hS => zH (v := Value.int .i64) (x0 := (qi (LD + (1 : Int)))) hS (xv rfl) rfl fun LZ a w hz hS => ?_
       have hM := qB hz hM; clear hz
       refine zd <| qc ?_
       exact L6 _ _ ⟨LY, (qi (LB - LS)), Mk, LZ, hS.to [0, 1, 2, 3] (by kernel_rfl) ⟨rfl, rfl, rfl, rfl, rfl, rfl, trivial⟩, Md, hM⟩
      ·refine wp_skip ?_
       refine zz (qc ?_)
       refine zI <| sM hS rfl fun hS => sB hS rfl fun hS => zH (v := Value.int .i64) (x0 := (qi (LD + (1 : Int)))) hS (xv rfl) rfl fun L0 a w hz hS => ?_
       have hM := qB hz hM; clear hz
       refine zd <| qc ?_
       exact L6 _ _ ⟨LJ, LH, LN, L0, hS.to [0, 1, 2, 3] (by kernel_rfl) ⟨rfl, rfl, rfl, rfl, rfl, rfl, trivial⟩, LP, hM⟩
    ·refine wp_exit ?_
     refine qC (qC (q9 (qc ?_)))
     exact L7 _ _ ⟨LJ, LH, LN, hS.to [0, 1, 2, 3] (by kernel_rfl) ⟨rfl, rfl, trivial⟩, LP, hM⟩
  ·intro a w hI
   obtain ⟨LG, LF, L3, hS, Me, hM⟩ := hI
   rw [zW.j2] at hM
   refine qk <| sO hS (vT 3 rfl Me rfl ([.int .u8 (0 : Int), .int .i64 LG, .int .i64 LF]) rfl rfl Tryd.isAgg32 Tryd.sizeOf32) rfl fun hS => u5 2 ([.int .u8 (0 : Int), .int .i64 LG, .int .i64 LF]) ([.int .u8 (0 : Int), .int .i64 LG, .int .i64 LF]) hS rfl rfl L4 rfl rfl Tryd.sizeOf32 (by simp [Value.oneCell']) (Nat.le_of_ble_eq_true rfl) rfl fun w Mq Mf hS => qz <| wp_ret ?_
   exact yB (vs := [.agg ⟨[.int .u8 (0 : Int), .int .i64 LG, .int .i64 LF]⟩]) hS rfl (by exact ⟨Jp 2 ([.int .u8 (0 : Int), .int .i64 LG, .int .i64 LF]) rfl Mf rfl rfl rfl Tryd.isAgg32 Tryd.sizeOf32, trivial⟩) (hret LG LF _ (qU hM) (hS.st.pick [0, 1] (by kernel_rfl)))
theorem QN {H : xU} {F : List qm} {w : World} {R : Ending → World → Prop} {kr : (List ((List Int) × (List Int))) → Prop} {kp : Value → Prop} (hG : Gl H) (K : Nat) (LB : xo) (LC : Int) (LD : Nat) (LN : qm) (LE : Nat) (LO : qm) (LJ : xZ LN LD ([yb LB.text_, .map (some LE)]) 90) (LQ : Xn (U9 .u8) (Kb 3) 3 (ci .i64) 1 LE LB.seen_ LO)
    (hS : St w H [LN, LO] F) (hm : (yz.m K LB LC).wp kr kp)
    (hret : ∀ (LP : (List ((List Int) × (List Int)))) (LU : qm) (w : World), kr LP → (Xn (U9 .u8) (Kb 3) 3 (ci .i64) 1 LE LP LU) → St w H [LN, LU] F → R (.returned (.tuple ⟨[]⟩)) w) :
    Calls Tryd.prog 44 ⟨[qO LD 0, .int .i64 LC]⟩ w R := by
 refine enter Tryd.func44 rfl Tryd.ntmps44 rfl hS fun a w hS => ?_
 have hM := hm; clear hm
 rw [yz.m] at hM
 refine qk <| sM hS rfl fun hS => sB hS rfl fun hS => sM hS rfl fun hS => sO hS (yu rfl) rfl fun hS => sO hS (xr rfl Tryd.runUnderlying90 rfl Tryd.sizeOf9 rfl) rfl fun hS => sO hS (xW 0 rfl LJ rfl rfl Tryd.isAgg9) rfl fun hS => sO hS (v8 rfl Tryd.runUnderlying9) rfl fun hS => sB hS rfl fun hS => qz <| qy hS rfl hM (fun L1 hM => ?_) (fun L1 hM => ?_)
 ·refine wp_seq ?_
  refine zI <| sM hS rfl fun hS => sM hS rfl fun hS => qK hS rfl Tryd.call66 (uo hG K LB LC LD LN LE LO LJ LQ (hS.st.part 2 [0, 1] (by kernel_rfl)) (qx hM) (fun  w hM  hst => qJ hS.ev hst.appF rfl fun hS => ?_))
  replace hS : Ss _ _ _ H [LN, LO] F _ _ := hS
  refine QJ ((List.replicate 3 (0 : Int)).flatMap (ci .u8)) hS Tryd.zeroValue126 rfl rfl fun w L4 L8 LV hS => Jl (xs := (List.replicate 3 (0 : Int))) (ys := ([((rd LB.text_ LC).toNat : Int), ((rd LB.text_ (qi (LC + (1 : Int)))).toNat : Int), ((rd LB.text_ (qi (LC + (2 : Int)))).toNat : Int)] : List Int)) (g := (ci .u8)) (pre := []) (post := []) 0 hS rfl rfl LV rfl (by simp) rfl (xx (g := (ci .u8)) (sz := 1) (fun _ => rfl) (List.length_replicate ..)) (xx (g := (ci .u8)) (sz := 1) (fun _ => rfl) rfl) (uA) Tryd.sizeOf126 fun w L5 LK hS => ?_
  replace LK : xZ L5 L4 (([((rd LB.text_ LC).toNat : Int), ((rd LB.text_ (qi (LC + (1 : Int)))).toNat : Int), ((rd LB.text_ (qi (LC + (2 : Int)))).toNat : Int)] : List Int).flatMap (ci .u8)) 126 := by simpa using LK
  refine qz <| zh (vals := [some (qO LD 0), some (qO LD 0), some (qO LD 1), some (.map (some LE)), some (.agg ⟨([((rd LB.text_ LC).toNat : Int), ((rd LB.text_ (qi (LC + (1 : Int)))).toNat : Int), ((rd LB.text_ (qi (LC + (2 : Int)))).toNat : Int)] : List Int).flatMap (ci .u8)⟩), some (.int .i64 LC), none, none, none, none, none, none]) hS xH rfl ?_
  intro l w ho hcl hA hst
  refine jQ hA hst ho hcl xQ xI 6 [0, 1, 2, 3, 4, 5] rfl rfl rfl rfl rfl (by exact ⟨nM rfl, nQ rfl (by exact qY (yu rfl) rfl), nQ rfl (by exact qY (xr rfl Tryd.runUnderlying90 rfl Tryd.sizeOf88 rfl) rfl), nQ rfl (by exact qY (xW 1 rfl LJ rfl rfl Tryd.isAgg88) rfl), nQ rfl (by exact qY (Y6 (xs := ([((rd LB.text_ LC).toNat : Int), ((rd LB.text_ (qi (LC + (1 : Int)))).toNat : Int), ((rd LB.text_ (qi (LC + (2 : Int)))).toNat : Int)] : List Int)) (g := (ci .u8)) (pre := []) (post := []) 0 rfl LK rfl (by simp) rfl (xx (g := (ci .u8)) (sz := 1) (fun _ => rfl) rfl) Tryd.isAgg126 Tryd.sizeOf126) rfl), nM rfl, trivial⟩) fun D l a w ho hcl hav hpre hm hE hk hA hst => ?_
  have hS := (Ss.mk hE hst).env2 (e' := [(22, .int .i64 LC)]) ⟨rfl, trivial⟩
  refine zi rfl <| Xs (g := (ci .i64)) ([LC] : List Int) [.int .i64 LC] hS Tryd.runUnderlying45 Tryd.sizeOf3 X.el3 rfl rfl rfl (by simp [Value.cells]) rfl rfl rfl rfl rfl fun w LL LM L9 LY hS => qz ?_
  replace hst := hS.st
  obtain ⟨hcl, hmust, hav2, hA⟩ := dn (vals' := [some (qO LD 0), some (qO LD 0), some (qO LD 1), some (.map (some LE)), some (.agg ⟨([((rd LB.text_ LC).toNat : Int), ((rd LB.text_ (qi (LC + (1 : Int)))).toNat : Int), ((rd LB.text_ (qi (LC + (2 : Int)))).toNat : Int)] : List Int).flatMap (ci .u8)⟩), some (.int .i64 LC), some (.slice LL ([LC] : List Int).length LM), none, none, none, none, none]) 6 [(5, 6)] hA hcl hav hm hpre hk rfl rfl rfl rfl rfl rfl rfl
  clear hm hav
  refine jQ hA hst ho hcl hav2 hmust 7 [0, 1, 2, 3, 4] rfl rfl rfl rfl rfl (by exact ⟨nM rfl, nQ rfl (by exact qY (yu rfl) rfl), nQ rfl (by exact qY (xr rfl Tryd.runUnderlying90 rfl Tryd.sizeOf88 rfl) rfl), nQ rfl (by exact qY (xW 2 rfl LJ rfl rfl Tryd.isAgg88) rfl), nQ rfl (by exact qY (Y6 (xs := ([((rd LB.text_ LC).toNat : Int), ((rd LB.text_ (qi (LC + (1 : Int)))).toNat : Int), ((rd LB.text_ (qi (LC + (2 : Int)))).toNat : Int)] : List Int)) (g := (ci .u8)) (pre := []) (post := []) 1 rfl LK rfl (by simp) rfl (xx (g := (ci .u8)) (sz := 1) (fun _ => rfl) rfl) Tryd.isAgg126 Tryd.sizeOf126) rfl), trivial⟩) fun D l a w ho hcl hav hpre hm hE hk hA hst => ?_
  have hS := (Ss.mk hE hst).env2 (e' := [(19, .map (some LE)), (20, .agg ⟨([((rd LB.text_ LC).toNat : Int), ((rd LB.text_ (qi (LC + (1 : Int)))).toNat : Int), ((rd LB.text_ (qi (LC + (2 : Int)))).toNat : Int)] : List Int).flatMap (ci .u8)⟩)]) ⟨rfl, rfl, trivial⟩
  refine zi rfl ?_
  replace hS := hS.front [3, 0, 1, 2] (by kernel_rfl)
  refine Lo (kv := U9 .u8) (ok := Kb 3) (E := 3) (g := (ci .i64)) (sz := 1) (q := ([((rd LB.text_ LC).toNat : Int), ((rd LB.text_ (qi (LC + (1 : Int)))).toNat : Int), ((rd LB.text_ (qi (LC + (2 : Int)))).toNat : Int)] : List Int)) hS rfl rfl rfl rfl LQ (KF Tryd.runUnderlying126 Tryd.runUnderlying5 Tryd.sizeOf5 Tryd.isAgg5) Tryd.runUnderlying88 Tryd.zeroValue45 rfl fun LF w LG LH LI Ma Mb hz LZ LW hS => ?_
  have hM := qB hz hM; clear hz
  refine qz ?_
  replace hst := hS.st
  obtain ⟨hcl, hmust, hav2, hA⟩ := dn (vals' := [some (qO LD 0), some (qO LD 0), some (qO LD 1), some (.map (some LE)), some (.agg ⟨([((rd LB.text_ LC).toNat : Int), ((rd LB.text_ (qi (LC + (1 : Int)))).toNat : Int), ((rd LB.text_ (qi (LC + (2 : Int)))).toNat : Int)] : List Int).flatMap (ci .u8)⟩), some (.int .i64 LC), some (.slice LL ([LC] : List Int).length LM), some (.tuple ⟨[.slice LG LF.length LH, .int .i64 ((LI : Nat) : Int)]⟩), some (.slice LG LF.length LH), none, some (.int .i64 ((LI : Nat) : Int)), none]) 7 [(0, 7), (1, 7), (2, 7), (3, 7), (4, 7), (5, 7), (6, 7)] hA hcl hav hm hpre hk rfl rfl rfl rfl rfl rfl rfl
  clear hm hav
  refine jQ hA hst ho hcl hav2 hmust 9 [8, 10] rfl rfl rfl rfl rfl (by exact ⟨nQ rfl (by exact qY (ex rfl rfl) rfl), nQ rfl (by exact qY (ex rfl rfl) rfl), trivial⟩) fun D l a w ho hcl hav hpre hm hE hk hA hst => ?_
  have hS := (Ss.mk hE hst).env2 (e' := [(21, .slice LG LF.length LH), (23, .slice LL ([LC] : List Int).length LM)]) ⟨rfl, rfl, trivial⟩
  refine zi rfl ?_
  obtain ⟨L3, hM⟩ := qE hM
  refine Yk (ys := ([LC] : List Int)) 0 hS rfl rfl LZ rfl (LY.rd (i := 2) rfl) Tryd.runUnderlying45 Tryd.runUnderlying45 X.el3 (fun _ => rfl) rfl xG L3 rfl fun LR w LS LT Mc hz L0 hS => ?_
  have hM := qB hz hM; clear hz
  refine qz ?_
  replace hst := hS.st
  obtain ⟨hcl, hmust, hav2, hA⟩ := dn (vals' := [some (qO LD 0), some (qO LD 0), some (qO LD 1), some (.map (some LE)), some (.agg ⟨([((rd LB.text_ LC).toNat : Int), ((rd LB.text_ (qi (LC + (1 : Int)))).toNat : Int), ((rd LB.text_ (qi (LC + (2 : Int)))).toNat : Int)] : List Int).flatMap (ci .u8)⟩), some (.int .i64 LC), some (.slice LL ([LC] : List Int).length LM), some (.tuple ⟨[.slice LG LF.length LH, .int .i64 ((LI : Nat) : Int)]⟩), some (.slice LG LF.length LH), some (.slice LS LR.length LT), some (.int .i64 ((LI : Nat) : Int)), none]) 9 [(6, 9), (7, 9), (8, 9), (5, 6), (0, 7), (1, 7), (2, 7), (3, 7), (4, 7)] hA hcl hav hm hpre hk rfl rfl rfl rfl rfl rfl rfl
  clear hm hav
  refine jQ hA hst ho hcl hav2 hmust 11 [10] rfl rfl rfl rfl rfl (by exact ⟨nQ rfl (by exact qY (ex rfl rfl) rfl), trivial⟩) fun D l a w ho hcl hav hpre hm hE hk hA hst => ?_
  have hS := (Ss.mk hE hst).env2 (e' := [(19, .map (some LE)), (25, .slice LS LR.length LT), (26, .int .i64 ((LI : Nat) : Int))]) ⟨rfl, rfl, rfl, trivial⟩
  refine zi rfl ?_
  replace hS := hS.front [0, 1, 2, 3, 4] (by kernel_rfl)
  refine Lk (kv := U9 .u8) (ok := Kb 3) (E := 3) (g := (ci .i64)) (sz := 1) hS rfl rfl rfl L0 LW fun L7 w L6 hz LX hS => ?_
  have hM := qB hz hM; clear hz
  refine qz ?_
  replace hst := hS.st
  obtain ⟨hcl, hmust, hav2, hA⟩ := Jy (vals' := [some (qO LD 0), some (qO LD 0), some (qO LD 1), some (.map (some LE)), some (.agg ⟨([((rd LB.text_ LC).toNat : Int), ((rd LB.text_ (qi (LC + (1 : Int)))).toNat : Int), ((rd LB.text_ (qi (LC + (2 : Int)))).toNat : Int)] : List Int).flatMap (ci .u8)⟩), some (.int .i64 LC), some (.slice LL ([LC] : List Int).length LM), some (.tuple ⟨[.slice LG LF.length LH, .int .i64 ((LI : Nat) : Int)]⟩), some (.slice LG LF.length LH), some (.slice LS LR.length LT), some (.int .i64 ((LI : Nat) : Int)), some undef]) 11 [(0, 11), (1, 11), (2, 11), (3, 11), (4, 11), (5, 11), (6, 11), (7, 11), (8, 11), (9, 11), (10, 11)] hA hcl hav hm hpre rfl rfl rfl rfl rfl
  clear hm hav
  refine yo hA hst ho hcl hmust [] rfl rfl rfl trivial fun a w hS => ?_
  replace hS := hS.env2 (e' := []) trivial
  exact vg (rs := []) hS rfl rfl (hret L7 L6 _ (qU hM) LX (hS.st.pick [3, 0] (by kernel_rfl)))
 ·refine wp_skip ?_
  exact vg (rs := []) hS rfl rfl (hret LB.seen_ LO _ (qU hM) LQ (hS.st.pick [0, 1] (by kernel_rfl)))
theorem Zf {H : xU} {F : List qm} {w : World} {R : Ending → World → Prop} {kr : (List qv) → Prop} {kp : Value → Prop} (hG : Gl H) (K : Nat) (LB : List UInt8)
    (hS : St w H [] F) (hm : (zZ.m K LB).wp kr kp)
    (hret : ∀ (Ma : Option Addr) (Md : Nat) (L8 : (List qv)) (Mf : qm) (w : World), kr L8 → (xh 32 qv.cells 3 Ma L8 Md Mf) → St w H [Mf] F → R (.returned (.slice Ma L8.length Md)) w) :
    Calls Tryd.prog 19 ⟨[yb LB]⟩ w R := by
 refine enter Tryd.func19 rfl Tryd.ntmps19 rfl hS fun a w hS => ?_
 have hM := hm; clear hm
 rw [zZ.m] at hM
 refine qk <| sA hS rfl fun hS => ?_
 obtain ⟨MH, MB, hS⟩ := hS.nilV 32 qv.cells 3
 refine qz <| qk <| sM hS rfl fun hS => Lp (kv := U9 .u8) (ok := Kb 3) (E := 3) (g := (ci .i64)) (sz := 1) hS rfl fun w LM Mv Ml hS => sO hS (Zq ([yb LB, .map (some LM)]) [(0, 1), (1, 1)] Tryd.zeroValue90 Tryd.runUnderlying90 (by intro w; simp [Tryd.sizeOf88, Tryd.sizeOf9]) rfl rfl) rfl fun hS => bx ([yb LB, .map (some LM)]) hS rfl rfl rfl fun w LR LK L0 hS => sA hS rfl fun hS => qz <| qk <| sA hS rfl fun hS => ?_
 obtain ⟨Mw, Mm, hS⟩ := hS.nilV 32 qv.cells 3
 refine qz <| wp_seq <| qk <| sA hS rfl fun hS => qz <| xJ <| zv (fun LW a w => ∃ (LE : (List ((List Int) × (List Int)))) (LL : qm) (LQ : Option Addr) (LS : Nat) (LI : (List qv)) (LN : qm) (LG : Int), Ss 41 [] [(0, yb LB), (3, qO LR 0), (4, .slice LQ LI.length LS), (5, .int .i64 LG)] H [LK, LL, LN] F a w ∧ (Xn (U9 .u8) (Kb 3) 3 (ci .i64) 1 LM LE LL) ∧ (xh 32 qv.cells 3 LQ LI LS LN) ∧ (zZ.l1 K LB LW LE LI LG).wp kr kp) K ?_ ?_ ?_
 ·exact ⟨([] : List ((List Int) × (List Int))), Mv, none, 0, ([] : List qv), Mw, (0 : Int), hS.to [1, 2, 0] (by kernel_rfl) ⟨rfl, rfl, rfl, rfl, trivial⟩, Ml, Mm, hM⟩
 ·intro a w hI; obtain ⟨_, _, _, _, _, _, _, _, _, _, hM⟩ := hI; exact zr hM
 ·intro LW a w hI MF Mk
  obtain ⟨LE, LL, LQ, LS, LI, LN, LG, hS, L4, L6, hM⟩ := hI
  rw [zZ.l1] at hM
  refine wp_seq <| qk <| sM hS rfl fun hS => sM hS rfl fun hS => sO hS (v8 rfl Tryd.runUnderlying9) rfl fun hS => sB hS rfl fun hS => qz <| qy hS rfl hM (fun Mq hM => ?_) (fun Mq hM => ?_)
  ·refine wp_skip ?_
   refine qc <| xJ <| qk <| sM hS rfl fun hS => sM hS rfl fun hS => qK hS rfl Tryd.call43 (QL hG K (xo.mk LB LE) LG LR LK LM LL L0 L4 (hS.st.part 2 [0, 1, 2] (by kernel_rfl)) (qx hM) (fun LP LJ w hM  hst => qJ hS.ev hst.appF rfl fun hS => ?_))
   replace hS : Ss _ _ _ H [LK, LL, LN] F _ _ := hS
   refine QJ ([.int .u8 (0 : Int), .int .i64 (0 : Int), .int .i64 (0 : Int)]) hS Tryd.zeroValue32 rfl rfl fun w Mb MI Mh hS => u5 0 ([.int .u8 (0 : Int), .int .i64 LP, .int .i64 LJ]) ([.int .u8 (0 : Int), .int .i64 LP, .int .i64 LJ]) hS rfl rfl Mh rfl rfl Tryd.sizeOf32 (by simp [Value.oneCell']) (Nat.le_of_ble_eq_true rfl) rfl fun w Mx LU hS => qz <| zx (fun a w => ∃ (LF : Int) (LC : Int) (LD : Int) (LY : qm), Ss 41 [] [(0, yb LB), (3, qO LR 0), (4, .slice LQ LI.length LS), (5, .int .i64 LG), (6, qO Mb 0)] H [LK, LL, LN, LY] F a w ∧ (xZ LY Mb ([.int .u8 LF, .int .i64 LC, .int .i64 LD]) 32) ∧ (zZ.j2 K (zZ.l1 K LB LW) LB LE LI LG LF LC LD).wp kr kp) (fun MD L3 => ?_) ?_
   ·refine wp_seq ?_
    refine zI <| sO hS (xr rfl Tryd.runUnderlying32 rfl Tryd.sizeOf3 rfl) rfl fun hS => sO hS (xW 0 rfl LU rfl rfl Tryd.isAgg3) rfl fun hS => sB hS rfl fun hS => qz <| qy hS rfl hM (fun Mr hM => ?_) (fun Mr hM => ?_)
    ·refine zI ?_
     refine sM hS rfl fun hS => sM hS rfl fun hS => ?_
     obtain ⟨Mt, hM⟩ := qE hM
     refine sO hS (KE rfl rfl Tryd.runUnderlying9 Mt) rfl fun hS => sO hS (Zq ([.int .u8 ((rd LB LG).toNat : Int), .int .i64 (0 : Int), .int .i64 (0 : Int)]) [(0, 1), (1, 1), (2, 1)] Tryd.zeroValue32 Tryd.runUnderlying32 (by intro w; simp [Tryd.sizeOf3, Tryd.sizeOf5]) rfl rfl) rfl fun hS => u5 0 ([.int .u8 ((rd LB LG).toNat : Int), .int .i64 (0 : Int), .int .i64 (0 : Int)]) ([.int .u8 ((rd LB LG).toNat : Int), .int .i64 (0 : Int), .int .i64 (0 : Int)]) hS rfl rfl LU rfl rfl Tryd.sizeOf32 (by simp [Value.oneCell']) (Nat.le_of_ble_eq_true rfl) rfl fun w My Mi hS => zd <| qc ?_
     exact L3 _ _ ⟨((rd LB LG).toNat : Int), (0 : Int), (0 : Int), My, hS.to [1, 2, 3, 0] (by kernel_rfl) ⟨rfl, rfl, rfl, rfl, rfl, trivial⟩, Mi, hM⟩
    ·refine wp_skip ?_
     refine qc ?_
     exact L3 _ _ ⟨(0 : Int), LP, LJ, Mx, hS.to [1, 2, 3, 0] (by kernel_rfl) ⟨rfl, rfl, rfl, rfl, rfl, trivial⟩, LU, hM⟩
   ·intro a w hI
    obtain ⟨LF, LC, LD, LY, hS, L1, hM⟩ := hI
    rw [zZ.j2] at hM
    refine qk <| sM hS rfl fun hS => sO hS (vT 3 rfl L1 rfl ([.int .u8 LF, .int .i64 LC, .int .i64 LD]) rfl rfl Tryd.isAgg32 Tryd.sizeOf32) rfl fun hS => Xs (g := qv.cells) ([(qv.mk LF LC LD)] : List qv) [.agg ⟨[.int .u8 LF, .int .i64 LC, .int .i64 LD]⟩] hS Tryd.runUnderlying25 Tryd.sizeOf32 X.el32 rfl rfl rfl (by simp [Value.cells]) rfl rfl rfl rfl rfl fun w MC MG MJ Mn hS => ?_
    obtain ⟨Mu, hM⟩ := qE hM
    refine Yk (ys := ([(qv.mk LF LC LD)] : List qv)) 3 hS rfl rfl L6 rfl (Mn.rd (i := 0) rfl) Tryd.runUnderlying25 Tryd.runUnderlying25 X.el32 (fun _ => rfl) rfl B7 Mu rfl fun LV w L9 Mc LZ hz Mp hS => ?_
    have hM := qB hz hM; clear hz
    refine sA hS rfl fun hS => qz <| qk <| sO hS (xr rfl Tryd.runUnderlying32 rfl Tryd.sizeOf3 rfl) rfl fun hS => sO hS (xW 4 rfl L1 rfl rfl Tryd.isAgg3) rfl fun hS => sO hS (B0 rfl rfl) rfl fun hS => sM hS rfl fun hS => qz <| xJ <| zv (fun Mg a w => ∃ (LH : (List ((List Int) × (List Int)))) (LT : qm) (LO : Int) (LX : Int), Ss 41 [] [(0, yb LB), (3, qO LR 0), (4, .slice L9 LV.length Mc), (5, .int .i64 LO), (31, .int .i64 (if LC > (1 : Int) then LC else (1 : Int))), (32, .int .i64 LX)] H [LK, LT, LZ] F a w ∧ (Xn (U9 .u8) (Kb 3) 3 (ci .i64) 1 LM LH LT) ∧ (zZ.l3 K (zZ.l1 K LB LW) LB LC LV Mg LH LO LX).wp kr kp) K ?_ ?_ ?_
    ·exact ⟨LE, LL, LG, (0 : Int), hS.to [1, 2, 3] (by kernel_rfl) ⟨rfl, rfl, rfl, rfl, rfl, rfl, trivial⟩, L4, hM⟩
    ·intro a w hI; obtain ⟨_, _, _, _, _, _, hM⟩ := hI; exact zr hM
    ·intro Mg a w hI ME Mj
     obtain ⟨LH, LT, LO, LX, hS, L5, hM⟩ := hI
     rw [zZ.l3] at hM
     refine qk <| sB hS rfl fun hS => qz <| wp_seq <| qy hS rfl hM (fun Ms hM => ?_) (fun Ms hM => ?_)
     ·refine wp_skip ?_
      refine qc <| wp_seq <| xJ <| qk <| sM hS rfl fun hS => sM hS rfl fun hS => qK hS rfl Tryd.call44 (QN hG K (xo.mk LB LH) LO LR LK LM LT L0 L5 (hS.st.part 2 [0, 1, 2] (by kernel_rfl)) (qx hM) (fun L7 Me w hM Mz hst => qJ hS.ev hst.appF rfl fun hS => ?_))
      replace hS : Ss _ _ _ H [LK, Me, LZ] F _ _ := hS
      refine qz <| zI <| sM hS rfl fun hS => sB hS rfl fun hS => zH (v := Value.int .i64) (x0 := (qi (LO + (1 : Int)))) hS (xv rfl) rfl fun MA a w hz hS => ?_
      have hM := qB hz hM; clear hz
      refine zd <| zz (qc ?_)
      refine zI <| sB hS rfl fun hS => sM hS rfl fun hS => zd <| qc ?_
      exact Mj _ _ ⟨L7, Me, MA, (qi (LX + (1 : Int))), hS.to [0, 1, 2] (by kernel_rfl) ⟨rfl, rfl, rfl, rfl, rfl, rfl, trivial⟩, Mz, hM⟩
     ·refine wp_exit ?_
      refine qC (qC (q9 (zz (qc ?_))))
      exact Mk _ _ ⟨LH, LT, L9, Mc, LV, LZ, LO, hS.to [0, 1, 2] (by kernel_rfl) ⟨rfl, rfl, rfl, rfl, trivial⟩, L5, Mp, hM⟩
  ·refine wp_exit ?_
   refine qC (qC (q9 (qc ?_)))
   refine qk <| sM hS rfl fun hS => sA hS rfl fun hS => qz <| wp_ret ?_
   exact zm (rs := [2]) hS rfl rfl (hret LQ LS LI LN _ (qU hM) L6 (hS.st.pick [2] (by kernel_rfl)))
theorem ug {H : xU} {F : List qm} {w : World} {R : Ending → World → Prop} {kr : (List UInt8) → Prop} {kp : Value → Prop} (hG : Gl H) (K : Nat) (LE : List UInt8)
    (hS : St w H [] F) (hm : (z6.m K LE).wp kr kp)
    (hret : ∀ (LM : List UInt8) (w : World), kr LM → St w H [] F → R (.returned (yb LM)) w)
    (hpan : ∀ v w, kp v → St w H [] F → R (.panicked [⟨v, false, false⟩]) w) :
    Calls Tryd.prog 18 ⟨[yb LE]⟩ w R := by
 refine enter Tryd.func18 rfl Tryd.ntmps18 rfl hS fun a w hS => ?_
 have hM := hm; clear hm
 rw [z6.m] at hM
 refine qk <| sA hS rfl fun hS => qz <| qk <| sM hS rfl fun hS => qK hS rfl Tryd.call19 (Zf hG K LE (hS.st.part 0 [] (by kernel_rfl)) (qx hM) (fun LG LH LF LC w hM LD hst => qJ hS.ev hst.appF rfl fun hS => ?_))
 replace hS : Ss _ _ _ H [LC] F _ _ := hS
 refine sA hS rfl fun hS => qz <| qk <| sM hS rfl fun hS => qK hS rfl Tryd.call10 (uE hG K LE (hS.st.part 0 [0] (by kernel_rfl)) (qx hM) (fun LJ w hM  hst => qJ hS.ev hst.appF rfl fun hS => ?_))
 replace hS : Ss _ _ _ H [LC] F _ _ := hS
 refine sA hS rfl fun hS => qz <| zx (fun a w => ∃ (LB : List UInt8), Ss 44 [] [(3, .slice LG LF.length LH), (4, yb LB)] H [LC] F a w ∧ (z6.j1 K LF LB).wp kr kp) (fun LR LI => ?_) ?_
 ·refine wp_seq ?_
  refine zI <| sM hS rfl fun hS => qK hS rfl Tryd.call12 (u9 hG K LF LG LH (LD.rdF (i := 0) rfl) (LD.cap (fun _ => rfl) rfl) (hS.st.part 0 [0] (by kernel_rfl)) (qx hM) (fun LK LP w hM  hst => qJ hS.ev hst.appF rfl fun hS => ?_))
  replace hS : Ss _ _ _ H [LC] F _ _ := hS
  refine sM hS rfl fun hS => sO hS (ex rfl rfl) rfl fun hS => sO hS (ex rfl rfl) rfl fun hS => sA hS rfl fun hS => sA hS rfl fun hS => qz <| qk <| sM hS rfl fun hS => sB hS rfl fun hS => sM hS rfl fun hS => yw 5 true 20 (b := (LP == (0 : Int))) (r := (decide ((LK.length : Int) < (LJ.length : Int)))) hS rfl rfl rfl rfl rfl rfl rfl (fun hb a w hS K hK => ?_) rfl fun a w hS => ?_
  ·refine zK hS rfl rfl rfl hb (mv rfl) rfl fun a w hS => ?_
   refine zK hS rfl rfl rfl hb (v8 rfl Tryd.runUnderlying9) rfl fun a w hS => zK hS rfl rfl rfl hb (mv rfl) rfl fun a w hS => zK hS rfl rfl rfl hb (v8 rfl Tryd.runUnderlying9) rfl fun a w hS => zK hS rfl rfl rfl hb (yZ rfl rfl rfl) rfl fun a w hS => ?_
   exact zd (hK _ _ (hS.up 5 rfl rfl))
  refine qz <| qy hS rfl hM (fun LN hM => ?_) (fun LN hM => ?_)
  ·refine zI ?_
   refine sM hS rfl fun hS => sA hS rfl fun hS => zd <| qc ?_
   exact LI _ _ ⟨LK, hS.to [0] (by kernel_rfl) ⟨rfl, rfl, trivial⟩, hM⟩
  ·refine wp_skip ?_
   refine qc ?_
   exact LI _ _ ⟨LJ, hS.to [0] (by kernel_rfl) ⟨rfl, rfl, trivial⟩, hM⟩
 ·intro a w hI
  obtain ⟨LB, hS, hM⟩ := hI
  rw [z6.j1] at hM
  refine wp_seq <| qk <| sM hS rfl fun hS => qK hS rfl Tryd.call14 (uh hG K LF LG LH (LD.rdF (i := 0) rfl) (LD.cap (fun _ => rfl) rfl) (hS.st.part 0 [0] (by kernel_rfl)) (qx hM) (fun LL LQ w hM  hst => qJ hS.ev hst.appF rfl fun hS => ?_) (fun v w hk hst => vr (xf (xf (⟨hS.ev.defs, hpan _ _ hk hst.appF.frame⟩)))))
  replace hS : Ss _ _ _ H [LC] F _ _ := hS
  refine sM hS rfl fun hS => sO hS (ex rfl rfl) rfl fun hS => sO hS (ex rfl rfl) rfl fun hS => sA hS rfl fun hS => sA hS rfl fun hS => qz <| qk <| sM hS rfl fun hS => sB hS rfl fun hS => sM hS rfl fun hS => yw 5 true 35 (b := (LQ == (0 : Int))) (r := (decide ((LL.length : Int) < (LB.length : Int)))) hS rfl rfl rfl rfl rfl rfl rfl (fun hb a w hS K hK => ?_) rfl fun a w hS => ?_
  ·refine zK hS rfl rfl rfl hb (mv rfl) rfl fun a w hS => ?_
   refine zK hS rfl rfl rfl hb (v8 rfl Tryd.runUnderlying9) rfl fun a w hS => zK hS rfl rfl rfl hb (mv rfl) rfl fun a w hS => zK hS rfl rfl rfl hb (v8 rfl Tryd.runUnderlying9) rfl fun a w hS => zK hS rfl rfl rfl hb (yZ rfl rfl rfl) rfl fun a w hS => ?_
   exact zd (hK _ _ (hS.up 5 rfl rfl))
  refine qz <| qy hS rfl hM (fun LO hM => ?_) (fun LO hM => ?_)
  ·refine zI ?_
   refine sM hS rfl fun hS => sA hS rfl fun hS => qz <| qk <| sM hS rfl fun hS => sA hS rfl fun hS => qz <| wp_ret ?_
   exact zm (rs := [2]) hS rfl rfl (hret LL _ (qU hM) (hS.st.pick [] (by kernel_rfl)))
  ·refine wp_skip ?_
   refine qc <| qk <| sM hS rfl fun hS => sA hS rfl fun hS => qz <| wp_ret ?_
   exact zm (rs := [2]) hS rfl rfl (hret LB _ (qU hM) (hS.st.pick [] (by kernel_rfl)))
theorem vo {H : xU} {F : List qm} {w : World} {R : Ending → World → Prop} {kr : Bool → Prop} {kp : Value → Prop} (hG : Gl H) (K : Nat)
    (hS : St w H [] F) (hm : (xp.m K).wp kr kp)
    (hret : ∀ (LK : Bool) (w : World), kr LK → St w H [] F → R (.returned (.bool LK)) w)
    (hpan : ∀ v w, kp v → St w H [] F → R (.panicked [⟨v, false, false⟩]) w) :
    Calls Tryd.prog 9 ⟨[]⟩ w R := by
 refine enter Tryd.func9 rfl Tryd.ntmps9 rfl hS fun a w hS => ?_
 have hM := hm; clear hm
 rw [xp.m] at hM
 refine qk <| sA hS rfl fun hS => qz <| qk <| sO hS (Zq ([.int .u8 (97 : Int), .int .i64 (0 : Int), .int .i64 (0 : Int)]) [(0, 1), (1, 1), (2, 1)] Tryd.zeroValue32 Tryd.runUnderlying32 (by intro w; simp [Tryd.sizeOf3, Tryd.sizeOf5]) rfl rfl) rfl fun hS => Xs (g := qv.cells) ([(qv.mk (97 : Int) (0 : Int) (0 : Int))] : List qv) [.agg ⟨[.int .u8 (97 : Int), .int .i64 (0 : Int), .int .i64 (0 : Int)]⟩] hS Tryd.runUnderlying25 Tryd.sizeOf32 X.el32 rfl rfl rfl (by simp [Value.cells]) rfl rfl rfl rfl rfl fun w A3 c4 f5 hV6 hS => qK hS rfl Tryd.call12 (u9 hG K ([(qv.mk (97 : Int) (0 : Int) (0 : Int))] : List qv) A3 c4 (hV6.rdF (i := 0) rfl) (hV6.cap (fun _ => rfl) rfl) (hS.st.part 0 [0] (by kernel_rfl)) (qx hM) (fun LD LI w hM  hst => qJ hS.ev hst.appF rfl fun hS => ?_))
 replace hS : Ss _ _ _ H [f5] F _ _ := hS
 refine sM hS rfl fun hS => sO hS (ex rfl rfl) rfl fun hS => sO hS (ex rfl rfl) rfl fun hS => sA hS rfl fun hS => sA hS rfl fun hS => qz <| qk <| sO hS (Zq ([.int .u8 (0 : Int), .int .i64 (1 : Int), .int .i64 (0 : Int)]) [(0, 1), (1, 1), (2, 1)] Tryd.zeroValue32 Tryd.runUnderlying32 (by intro w; simp [Tryd.sizeOf3, Tryd.sizeOf5]) rfl rfl) rfl fun hS => Xs (g := qv.cells) ([(qv.mk (0 : Int) (1 : Int) (0 : Int))] : List qv) [.agg ⟨[.int .u8 (0 : Int), .int .i64 (1 : Int), .int .i64 (0 : Int)]⟩] hS Tryd.runUnderlying25 Tryd.sizeOf32 X.el32 rfl rfl rfl (by simp [Value.cells]) rfl rfl rfl rfl rfl fun w LL LM LF LH hS => qK hS rfl Tryd.call14 (uh hG K ([(qv.mk (0 : Int) (1 : Int) (0 : Int))] : List qv) LL LM (LH.rdF (i := 0) rfl) (LH.cap (fun _ => rfl) rfl) (hS.st.part 0 [0, 1] (by kernel_rfl)) (qx hM) (fun LP LJ w hM  hst => qJ hS.ev hst.appF rfl fun hS => ?_) (fun v w hk hst => vr (xf (⟨hS.ev.defs, hpan _ _ hk hst.appF.frame⟩))))
 replace hS : Ss _ _ _ H [LF, f5] F _ _ := hS
 refine sM hS rfl fun hS => sO hS (ex rfl rfl) rfl fun hS => sO hS (ex rfl rfl) rfl fun hS => sA hS rfl fun hS => sA hS rfl fun hS => qz <| qk <| qK hS rfl Tryd.call10 (uE hG K ([] : List UInt8) (hS.st.part 0 [0, 1] (by kernel_rfl)) (qx hM) (fun LE w hM  hst => qJ hS.ev hst.appF rfl fun hS => ?_))
 replace hS : Ss _ _ _ H [LF, f5] F _ _ := hS
 refine sO hS (BD rfl rfl rfl) rfl fun hS => sM hS rfl fun hS => yw 2 true 19 (b := (LE == ([1, 0, 0, 255, 255] : List UInt8))) (r := (LD == ([75, 4, 0] : List UInt8))) hS rfl rfl rfl rfl rfl rfl rfl (fun hb a w hS K hK => ?_) rfl fun a w hS => ?_
 ·refine zK hS rfl rfl rfl hb (mv rfl) rfl fun a w hS => ?_
  refine zK hS rfl rfl rfl hb (BD rfl rfl rfl) rfl fun a w hS => ?_
  exact zd (hK _ _ (hS.up 2 rfl rfl))
 refine sM hS rfl fun hS => yw 2 true 23 (b := ((LE == ([1, 0, 0, 255, 255] : List UInt8)) && (LD == ([75, 4, 0] : List UInt8)))) (r := (LI == (0 : Int))) hS rfl rfl rfl rfl rfl rfl rfl (fun hb a w hS K hK => ?_) rfl fun a w hS => ?_
 ·refine zK hS rfl rfl rfl hb (mv rfl) rfl fun a w hS => ?_
  refine zK hS rfl rfl rfl hb (yZ rfl rfl rfl) rfl fun a w hS => ?_
  exact zd (hK _ _ (hS.up 2 rfl rfl))
 refine sM hS rfl fun hS => yw 2 true 27 (b := (((LE == ([1, 0, 0, 255, 255] : List UInt8)) && (LD == ([75, 4, 0] : List UInt8))) && (LI == (0 : Int)))) (r := (LJ == (1 : Int))) hS rfl rfl rfl rfl rfl rfl rfl (fun hb a w hS K hK => ?_) rfl fun a w hS => ?_
 ·refine zK hS rfl rfl rfl hb (mv rfl) rfl fun a w hS => ?_
  refine zK hS rfl rfl rfl hb (yZ rfl rfl rfl) rfl fun a w hS => ?_
  exact zd (hK _ _ (hS.up 2 rfl rfl))
 refine sM hS rfl fun hS => v4 (fun a w => ∃ (LC : Bool), Ss 35 [] [(34, .bool LC)] H [] F a w ∧ (xp.j1 K LC).wp kr kp) 3 (fun LO LG => ?_) ?_
 ·refine UM (b := ((((LE == ([1, 0, 0, 255, 255] : List UInt8)) && (LD == ([75, 4, 0] : List UInt8))) && (LI == (0 : Int))) && (LJ == (1 : Int)))) hM (fun LB hM => ?_) (fun LB hM => ?_)
  ·replace hS := hS.re 30 (v := .bool true) rfl (congrArg Value.bool LB)
   replace hS := hS.re 31 (v := .bool true) rfl (congrArg Value.bool LB)
   refine Xk hS rfl rfl rfl rfl <| qK hS rfl Tryd.call18 (ug hG K ([] : List UInt8) (hS.st.part 0 [0, 1] (by kernel_rfl)) (qx hM) (fun LN w hM  hst => qJ hS.ev hst.appF rfl fun hS => ?_) (fun v w hk hst => vr (xf (xf (⟨hS.ev.defs, hpan _ _ hk hst.appF.frame⟩)))))
   replace hS : Ss _ _ _ H [LF, f5] F _ _ := hS
   refine zK hS rfl rfl rfl rfl (BD rfl rfl rfl) rfl fun a w hS => sO hS (pk rfl rfl rfl) rfl fun hS => zd <| qc ?_
   exact LG _ _ ⟨(!(LN == ([] : List UInt8))), hS.to [] (by kernel_rfl) ⟨rfl, trivial⟩, hM⟩
  ·replace hS := hS.re 30 (v := .bool false) rfl (congrArg Value.bool LB)
   replace hS := hS.re 31 (v := .bool false) rfl (congrArg Value.bool LB)
   refine X4 2 hS rfl fun a w hS => sO hS (pk rfl rfl rfl) rfl fun hS => zd <| qc ?_
   exact LG _ _ ⟨false, hS.to [] (by kernel_rfl) ⟨rfl, trivial⟩, hM⟩
 ·intro a w hI
  obtain ⟨LC, hS, hM⟩ := hI
  rw [xp.j1] at hM
  refine sA hS rfl fun hS => qz <| wp_ret ?_
  exact zm (rs := [0]) hS rfl rfl (hret LC _ (qU hM) (hS.st.pick [] (by kernel_rfl)))
theorem jb {H : xU} {F : List qm} {w : World} {R : Ending → World → Prop} {kr : (Int × Int × Int) → Prop} {kp : Value → Prop} (hG : Gl H) (K : Nat) (LB : qj) (LC : Int) (LD : Nat) (LF : qm) (LE : xZ LF LD ([yb LB.S_, .int .i64 LB.At_]) 82)
    (hS : St w H [LF] F) (hm : (za.m K LB LC).wp kr kp)
    (hret : ∀ (LN : Int) (LO : Int) (LI : Int) (LL : qm) (w : World), kr (LN, LO, LI) → (xZ LL LD ([yb LB.S_, .int .i64 LI]) 82) → St w H [LL] F → R (.returned (.tuple ⟨[.int .u32 LN, .int .i64 LO]⟩)) w) :
    Calls Tryd.prog 86 ⟨[qO LD 0, .int .i64 LC]⟩ w R := by
 refine enter Tryd.func86 rfl Tryd.ntmps86 rfl hS fun a w hS => ?_
 have hM := hm; clear hm
 rw [za.m] at hM
 refine qk <| sA hS rfl fun hS => sA hS rfl fun hS => qz <| wp_seq <| qk <| sM hS rfl fun hS => sB hS rfl fun hS => sM hS rfl fun hS => yw 2 false 12 (b := (decide (LC < (0 : Int)))) (r := (decide (LC > (32 : Int)))) hS rfl rfl rfl rfl rfl rfl rfl (fun hb a w hS K hK => ?_) rfl fun a w hS => ?_
 ·refine zK hS rfl rfl rfl hb (mv rfl) rfl fun a w hS => ?_
  refine zK hS rfl rfl rfl hb (yZ rfl rfl rfl) rfl fun a w hS => ?_
  exact zd (hK _ _ (hS.up 2 rfl rfl))
 refine qz <| qy hS rfl hM (fun LT hM => ?_) (fun LT hM => ?_)
 ·refine wp_seq ?_
  refine zI <| sA hS rfl fun hS => sA hS rfl fun hS => qz <| wp_ret <| qA ?_
  exact zm (rs := [4, 5]) hS rfl rfl (hret (0 : Int) (1 : Int) LB.At_ LF _ (qU hM) LE (hS.st.pick [0] (by kernel_rfl)))
 ·refine wp_skip ?_
  refine qc <| wp_seq <| wp_seq <| zh (vals := [some (.int .i64 LC), some (qO LD 0), some (qO LD 0), some (qO LD 0), some (yb LB.S_), some (.int .i64 (LB.S_.length : Int)), some (.int .i64 (qi ((8 : Int) * (LB.S_.length : Int)))), some (qO LD 0), some (qO LD 0), some (qO LD 1), some (.int .i64 LB.At_), some (.int .i64 (qi ((qi ((8 : Int) * (LB.S_.length : Int))) - LB.At_))), some (.bool (decide (LC > (qi ((qi ((8 : Int) * (LB.S_.length : Int))) - LB.At_)))))]) hS xH rfl ?_
  intro l w ho hcl hA hst
  refine yo hA hst ho hcl xI [0, 1, 2, 3, 4, 5, 6, 7, 8, 9, 10, 11, 12] rfl rfl rfl (by exact ⟨nM rfl, nM rfl, nQ rfl (by exact qY (yu rfl) rfl), nQ rfl (by exact qY (xr rfl Tryd.runUnderlying82 rfl Tryd.sizeOf9 rfl) rfl), nQ rfl (by exact qY (xW 0 rfl LE rfl rfl Tryd.isAgg9) rfl), nQ rfl (by exact qY (v8 rfl Tryd.runUnderlying9) rfl), nB rfl, nM rfl, nQ rfl (by exact qY (yu rfl) rfl), nQ rfl (by exact qY (xr rfl Tryd.runUnderlying82 rfl Tryd.sizeOf3 rfl) rfl), nQ rfl (by exact qY (xW 0 rfl LE rfl rfl Tryd.isAgg3) rfl), nB rfl, nB rfl, trivial⟩) fun a w hS => ?_
  replace hS := hS.env2 (e' := [(0, qO LD 0), (1, .int .i64 LC), (28, .bool (decide (LC > (qi ((qi ((8 : Int) * (LB.S_.length : Int))) - LB.At_)))))]) ⟨rfl, rfl, rfl, trivial⟩
  refine qc <| qy hS rfl hM (fun LU hM => ?_) (fun LU hM => ?_)
  ·refine wp_seq ?_
   refine zI <| sA hS rfl fun hS => sA hS rfl fun hS => qz <| wp_ret <| qA ?_
   exact zm (rs := [4, 5]) hS rfl rfl (hret (0 : Int) (2 : Int) LB.At_ LF _ (qU hM) LE (hS.st.pick [0] (by kernel_rfl)))
  ·refine wp_skip ?_
   refine qc <| qk <| sA hS rfl fun hS => qz <| zx (fun a w => ∃ (LJ : Int), Ss 69 [] [(0, qO LD 0), (1, .int .i64 LC), (6, .int .u32 LJ)] H [LF] F a w ∧ (za.j2 K LB LC LJ).wp kr kp) (fun L4 LS => ?_) ?_
   ·refine wp_seq ?_
    refine zI <| sA hS rfl fun hS => qz <| xJ <| zv (fun LM a w => ∃ (LH : Int) (LG : Int), Ss 69 [] [(0, qO LD 0), (1, .int .i64 LC), (6, .int .u32 LH), (7, .int .i64 LG)] H [LF] F a w ∧ (za.l1 K LB LC LM LH LG).wp kr kp) K ?_ ?_ ?_
    ·exact ⟨(0 : Int), (0 : Int), hS.to [0] (by kernel_rfl) ⟨rfl, rfl, rfl, rfl, trivial⟩, hM⟩
    ·intro a w hI; obtain ⟨_, _, _, hM⟩ := hI; exact zr hM
    ·intro LM a w hI L3 LR
     obtain ⟨LH, LG, hS, hM⟩ := hI
     rw [za.l1] at hM
     refine wp_seq <| qk <| sM hS rfl fun hS => sM hS rfl fun hS => sB hS rfl fun hS => qz <| qy hS rfl hM (fun LV hM => ?_) (fun LV hM => ?_)
     ·refine wp_skip ?_
      refine qc <| wp_seq <| xJ <| qk <| sM hS rfl fun hS => sO hS (yu rfl) rfl fun hS => sO hS (xr rfl Tryd.runUnderlying82 rfl Tryd.sizeOf3 rfl) rfl fun hS => sO hS (xW 0 rfl LE rfl rfl Tryd.isAgg3) rfl fun hS => sM hS rfl fun hS => sB hS rfl fun hS => zH (v := Value.int .i64) (x0 := (qi (LB.At_ + LG))) hS (xv rfl) rfl fun LK a w hz hS => ?_
      have hM := qB hz hM; clear hz
      refine qz <| qk <| sM hS rfl fun hS => sO hS (yu rfl) rfl fun hS => sO hS (xr rfl Tryd.runUnderlying82 rfl Tryd.sizeOf9 rfl) rfl fun hS => sO hS (xW 0 rfl LE rfl rfl Tryd.isAgg9) rfl fun hS => sM hS rfl fun hS => sO hS (quo rfl rfl rfl) rfl fun hS => ?_
      obtain ⟨LW, hM⟩ := qE hM
      refine sO hS (KE rfl rfl Tryd.runUnderlying9 LW) rfl fun hS => sO hS (vH rfl Tryd.runUnderlying5 Tryd.runUnderlying53) rfl fun hS => sM hS rfl fun hS => sO hS (rem rfl rfl rfl) rfl fun hS => sO hS (vH rfl Tryd.runUnderlying3 Tryd.runUnderlying39) rfl fun hS => ?_
      obtain ⟨LX, hM⟩ := qE hM
      refine sO hS (shr rfl rfl LX) rfl fun hS => sO hS (rem rfl rfl rfl) rfl fun hS => zH (v := Value.int .u32) (x0 := (yk (xF .u32 (wr .u32 ((rd LB.S_ (xA .i64 LK (8 : Int))).toNat : Int)) (wr .u64 (yk LK (8 : Int)))) (2 : Int))) hS (xv rfl) rfl fun LP a w hz hS => ?_
      have hM := qB hz hM; clear hz
      refine qz <| zI <| sM hS rfl fun hS => sM hS rfl fun hS => sM hS rfl fun hS => sO hS (vH rfl Tryd.runUnderlying3 Tryd.runUnderlying39) rfl fun hS => ?_
      obtain ⟨LY, hM⟩ := qE hM
      refine sO hS (shl rfl rfl LY) rfl fun hS => sB hS rfl fun hS => zH (v := Value.int .u32) (x0 := (wr .u32 (LH + (xl .u32 LP (wr .u64 LG))))) hS (xv rfl) rfl fun L1 a w hz hS => ?_
      have hM := qB hz hM; clear hz
      refine zd <| zz (qc ?_)
      refine zI <| sM hS rfl fun hS => sB hS rfl fun hS => zH (v := Value.int .i64) (x0 := (qi (LG + (1 : Int)))) hS (xv rfl) rfl fun L0 a w hz hS => ?_
      have hM := qB hz hM; clear hz
      refine zd <| qc ?_
      exact LR _ _ ⟨L1, L0, hS.to [0] (by kernel_rfl) ⟨rfl, rfl, rfl, rfl, trivial⟩, hM⟩
     ·refine wp_exit ?_
      refine qC (qC (q9 (qc ?_)))
      exact LS _ _ ⟨LH, hS.to [0] (by kernel_rfl) ⟨rfl, rfl, rfl, trivial⟩, hM⟩
   ·intro a w hI
    obtain ⟨LJ, hS, hM⟩ := hI
    rw [za.j2] at hM
    refine qk <| sM hS rfl fun hS => sM hS rfl fun hS => sO hS (yu rfl) rfl fun hS => sO hS (xr rfl Tryd.runUnderlying82 rfl Tryd.sizeOf3 rfl) rfl fun hS => sO hS (xW 0 rfl LE rfl rfl Tryd.isAgg3) rfl fun hS => sM hS rfl fun hS => sB hS rfl fun hS => sO hS (yu rfl) rfl fun hS => sO hS (xr rfl Tryd.runUnderlying82 rfl Tryd.sizeOf3 rfl) rfl fun hS => U8 0 ([yb LB.S_, .int .i64 (qi (LB.At_ + LC))]) hS rfl rfl LE rfl rfl rfl rfl Tryd.sizeOf3 fun w LZ LQ hS => qz <| qk <| sM hS rfl fun hS => sA hS rfl fun hS => sA hS rfl fun hS => qz <| wp_ret ?_
    exact zm (rs := [4, 5]) hS rfl rfl (hret LJ (0 : Int) (qi (LB.At_ + LC)) LZ _ (qU hM) LQ (hS.st.pick [0] (by kernel_rfl)))
theorem zY {H : xU} {F : List qm} {w : World} {R : Ending → World → Prop} {kr : (Int × Int × Int) → Prop} {kp : Value → Prop} (hG : Gl H) (K : Nat) (LC : qr) (LD : Int) (LB : Int) (LL : Nat) (LG : qm) (LF : Nat) (LI : qm) (LK : Option Addr) (LM : Nat) (LH : qm) (LR : xZ LG LL ([qO LF 0, .slice LK LC.out_.length LM, .int .i64 LC.limit_]) 84) (LS : xZ LI LF ([yb LC.r_.S_, .int .i64 LC.r_.At_]) 82) (LX : xh 5 (ci .u8) 1 LK LC.out_ LM LH)
    (hS : St w H [LG, LI, LH] F) (hm : (zD.m K LC LD LB).wp kr kp)
    (hret : ∀ (LP : Int) (LQ : Int) (LE : Int) (LO : qm) (w : World), kr (LP, LQ, LE) → (xZ LO LF ([yb LC.r_.S_, .int .i64 LE]) 82) → St w H [LG, LO, LH] F → R (.returned (.tuple ⟨[.int .i64 LP, .int .i64 LQ]⟩)) w) :
    Calls Tryd.prog 61 ⟨[qO LL 0, .int .i64 LD, .int .i64 LB]⟩ w R := by
 refine enter Tryd.func61 rfl Tryd.ntmps61 rfl hS fun a w hS => ?_
 have hM := hm; clear hm
 rw [zD.m] at hM
 refine qk <| sA hS rfl fun hS => sA hS rfl fun hS => qz <| qk <| sM hS rfl fun hS => sO hS (yu rfl) rfl fun hS => sO hS (xr rfl Tryd.runUnderlying84 rfl Tryd.sizeOf80 rfl) rfl fun hS => sO hS (xW 0 rfl LR rfl rfl Tryd.isAgg80) rfl fun hS => sM hS rfl fun hS => qK hS rfl Tryd.call86 (jb hG K LC.r_ LD LF LI LS (hS.st.part 1 [1, 0, 2] (by kernel_rfl)) (qx hM) (fun LV LW LJ LN w hM LT hst => qJ hS.ev hst.appF rfl fun hS => ?_))
 replace hS : Ss _ _ _ H [LN, LG, LH] F _ _ := hS
 refine sM hS rfl fun hS => sO hS (ex rfl rfl) rfl fun hS => sO hS (ex rfl rfl) rfl fun hS => sA hS rfl fun hS => sA hS rfl fun hS => qz <| qk <| sM hS rfl fun hS => sM hS rfl fun hS => sO hS (vH rfl Tryd.runUnderlying53 Tryd.runUnderlying3) rfl fun hS => sB hS rfl fun hS => sM hS rfl fun hS => zH (v := Value.int .i64) (x0 := (qi (LB + (wr .i64 LV)))) hS (xv rfl) rfl fun LU a w hz hS => ?_
 have hM := qB hz hM; clear hz
 refine sA hS rfl fun hS => qz <| wp_ret ?_
 exact zm (rs := [6, 7]) hS rfl rfl (hret LU LW LJ LN _ (qU hM) LT (hS.st.pick [1, 0, 2] (by kernel_rfl)))
theorem vw {H : xU} {F : List qm} {w : World} {R : Ending → World → Prop} {kr : Int → Prop} {kp : Value → Prop} (hG : Gl H) (K : Nat) (LC : qj) (LE : Nat) (LH : qm) (LK : xZ LH LE ([yb LC.S_, .int .i64 LC.At_]) 82)
    (hS : St w H [LH] F) (hm : (zO.m K LC).wp kr kp)
    (hret : ∀ (LF : Int) (LI : qm) (w : World), kr LF → (xZ LI LE ([yb LC.S_, .int .i64 LF]) 82) → St w H [LI] F → R (.returned (.tuple ⟨[]⟩)) w) :
    Calls Tryd.prog 103 ⟨[qO LE 0]⟩ w R := by
 refine enter Tryd.func103 rfl Tryd.ntmps103 rfl hS fun a w hS => ?_
 have hM := hm; clear hm
 rw [zO.m] at hM
 refine xJ <| zv (fun LJ a w => ∃ (LB : Int) (LG : qm), Ss 15 [] [(0, qO LE 0)] H [LG] F a w ∧ (xZ LG LE ([yb LC.S_, .int .i64 LB]) 82) ∧ (zO.l1 K LJ LB).wp kr kp) K ?_ ?_ ?_
 ·exact ⟨LC.At_, LH, hS.to [0] (by kernel_rfl) ⟨rfl, trivial⟩, LK, hM⟩
 ·intro a w hI; obtain ⟨_, _, _, _, hM⟩ := hI; exact zr hM
 ·intro LJ a w hI LP LM
  obtain ⟨LB, LG, hS, LD, hM⟩ := hI
  rw [zO.l1] at hM
  refine wp_seq <| qk <| sM hS rfl fun hS => sO hS (yu rfl) rfl fun hS => sO hS (xr rfl Tryd.runUnderlying82 rfl Tryd.sizeOf3 rfl) rfl fun hS => sO hS (xW 0 rfl LD rfl rfl Tryd.isAgg3) rfl fun hS => sO hS (rem rfl rfl rfl) rfl fun hS => sB hS rfl fun hS => qz <| qy hS rfl hM (fun LN hM => ?_) (fun LN hM => ?_)
  ·refine wp_skip ?_
   refine qc <| xJ <| zI <| sM hS rfl fun hS => sO hS (yu rfl) rfl fun hS => sO hS (xr rfl Tryd.runUnderlying82 rfl Tryd.sizeOf3 rfl) rfl fun hS => sO hS (xW 0 rfl LD rfl rfl Tryd.isAgg3) rfl fun hS => sB hS rfl fun hS => sO hS (yu rfl) rfl fun hS => sO hS (xr rfl Tryd.runUnderlying82 rfl Tryd.sizeOf3 rfl) rfl fun hS => U8 0 ([yb LC.S_, .int .i64 (qi (LB + (1 : Int)))]) hS rfl rfl LD rfl rfl rfl rfl Tryd.sizeOf3 fun w LO LL hS => zd <| zz (qc ?_)
   exact LM _ _ ⟨(qi (LB + (1 : Int))), LO, hS.to [0] (by kernel_rfl) ⟨rfl, trivial⟩, LL, hM⟩
  ·refine wp_exit ?_
   refine qC (qC (q9 ?_))
   exact vg (rs := []) hS rfl rfl (hret LB LG _ (qU hM) LD (hS.st.pick [0] (by kernel_rfl)))
theorem yX {H : xU} {F : List qm} {w : World} {R : Ending → World → Prop} {kr : ((List UInt8) × Int × Int) → Prop} {kp : Value → Prop} (hG : Gl H) (K : Nat) (LB : qj) (LD : Int) (LH : Nat) (LI : qm) (LJ : xZ LI LH ([yb LB.S_, .int .i64 LB.At_]) 82)
    (hS : St w H [LI] F) (hm : (xC.m K LB LD).wp kr kp)
    (hret : ∀ (LN : List UInt8) (LO : Int) (LG : Int) (LM : qm) (w : World), kr (LN, LO, LG) → (xZ LM LH ([yb LB.S_, .int .i64 LG]) 82) → St w H [LM] F → R (.returned (.tuple ⟨[yb LN, .int .i64 LO]⟩)) w) :
    Calls Tryd.prog 87 ⟨[qO LH 0, .int .i64 LD]⟩ w R := by
 refine enter Tryd.func87 rfl Tryd.ntmps87 rfl hS fun a w hS => ?_
 have hM := hm; clear hm
 rw [xC.m] at hM
 refine qk <| sA hS rfl fun hS => sA hS rfl fun hS => qz <| wp_seq <| qk <| sM hS rfl fun hS => sB hS rfl fun hS => qz <| qy hS rfl hM (fun LP hM => ?_) (fun LP hM => ?_)
 ·refine wp_seq ?_
  refine zI <| sA hS rfl fun hS => sA hS rfl fun hS => qz <| wp_ret <| qA ?_
  exact zm (rs := [4, 5]) hS rfl rfl (hret ([] : List UInt8) (1 : Int) LB.At_ LI _ (qU hM) LJ (hS.st.pick [0] (by kernel_rfl)))
 ·refine wp_skip ?_
  refine qc <| qk <| sM hS rfl fun hS => qK hS rfl Tryd.call103 (vw hG K LB LH LI LJ (hS.st.part 1 [0] (by kernel_rfl)) (qx hM) (fun LC LL w hM LE hst => qJ hS.ev hst.appF rfl fun hS => ?_))
  replace hS : Ss _ _ _ H [LL] F _ _ := hS
  refine qz <| qk <| sM hS rfl fun hS => sO hS (yu rfl) rfl fun hS => sO hS (xr rfl Tryd.runUnderlying82 rfl Tryd.sizeOf3 rfl) rfl fun hS => sO hS (xW 0 rfl LE rfl rfl Tryd.isAgg3) rfl fun hS => sO hS (quo rfl rfl rfl) rfl fun hS => zH (v := Value.int .i64) (x0 := (xA .i64 LC (8 : Int))) hS (xv rfl) rfl fun LF a w hz hS => ?_
  have hM := qB hz hM; clear hz
  refine qz <| wp_seq <| qk <| sM hS rfl fun hS => sM hS rfl fun hS => sO hS (yu rfl) rfl fun hS => sO hS (xr rfl Tryd.runUnderlying82 rfl Tryd.sizeOf9 rfl) rfl fun hS => sO hS (xW 0 rfl LE rfl rfl Tryd.isAgg9) rfl fun hS => sO hS (v8 rfl Tryd.runUnderlying9) rfl fun hS => sM hS rfl fun hS => sB hS rfl fun hS => sB hS rfl fun hS => qz <| qy hS rfl hM (fun LQ hM => ?_) (fun LQ hM => ?_)
  ·refine wp_seq ?_
   refine zI <| sA hS rfl fun hS => sA hS rfl fun hS => qz <| wp_ret <| qA ?_
   exact zm (rs := [4, 5]) hS rfl rfl (hret ([] : List UInt8) (2 : Int) LC LL _ (qU hM) LE (hS.st.pick [0] (by kernel_rfl)))
  ·refine wp_skip ?_
   refine qc <| qk <| sM hS rfl fun hS => sM hS rfl fun hS => sO hS (yu rfl) rfl fun hS => sO hS (xr rfl Tryd.runUnderlying82 rfl Tryd.sizeOf3 rfl) rfl fun hS => sO hS (xW 0 rfl LE rfl rfl Tryd.isAgg3) rfl fun hS => sM hS rfl fun hS => sB hS rfl fun hS => sB hS rfl fun hS => sO hS (yu rfl) rfl fun hS => sO hS (xr rfl Tryd.runUnderlying82 rfl Tryd.sizeOf3 rfl) rfl fun hS => U8 0 ([yb LB.S_, .int .i64 (qi (LC + (qi ((8 : Int) * LD))))]) hS rfl rfl LE rfl rfl rfl rfl Tryd.sizeOf3 fun w LS LK hS => qz <| qk <| sM hS rfl fun hS => sO hS (yu rfl) rfl fun hS => sO hS (xr rfl Tryd.runUnderlying82 rfl Tryd.sizeOf9 rfl) rfl fun hS => sO hS (xW 0 rfl LK rfl rfl Tryd.isAgg9) rfl fun hS => sM hS rfl fun hS => sM hS rfl fun hS => sM hS rfl fun hS => sB hS rfl fun hS => ?_
   obtain ⟨LR, hM⟩ := qE hM
   refine sO hS (GF rfl Tryd.runUnderlying9 (GP rfl) (BR rfl) LR) rfl fun hS => zH (v := yb) (x0 := (sub LB.S_ LF (qi (LF + LD)))) hS (xv rfl) rfl fun LT a w hz hS => ?_
   have hM := qB hz hM; clear hz
   refine sA hS rfl fun hS => qz <| wp_ret ?_
   exact zm (rs := [4, 5]) hS rfl rfl (hret LT (0 : Int) (qi (LC + (qi ((8 : Int) * LD)))) LS _ (qU hM) LK (hS.st.pick [0] (by kernel_rfl)))
theorem vx {H : xU} {F : List qm} {w : World} {R : Ending → World → Prop} {kr : (Int × Int × (List Int)) → Prop} {kp : Value → Prop} (hG : Gl H) (K : Nat) (LC : qr) (LF : Nat) (LG : qm) (LJ : Nat) (LS : qm) (LI : Option Addr) (LK : Nat) (LH : qm) (LE : xZ LG LF ([qO LJ 0, .slice LI LC.out_.length LK, .int .i64 LC.limit_]) 84) (L6 : xZ LS LJ ([yb LC.r_.S_, .int .i64 LC.r_.At_]) 82) (LL : xh 5 (ci .u8) 1 LI LC.out_ LK LH)
    (hS : St w H [LG, LS, LH] F) (hm : (xR.m K LC).wp kr kp)
    (hret : ∀ (L5 : Int) (LP : Int) (L1 : qm) (LY : Option Addr) (L0 : Nat) (LO : (List Int)) (L3 : qm) (L4 : qm) (w : World), kr (L5, LP, LO) → (xZ L1 LJ ([yb LC.r_.S_, .int .i64 LP]) 82) → (xh 5 (ci .u8) 1 LY LO L0 L3) → (xZ L4 LF ([qO LJ 0, .slice LY LO.length L0, .int .i64 LC.limit_]) 84) → St w H [L4, L1, L3] F → R (.returned (.int .i64 L5)) w) :
    Calls Tryd.prog 62 ⟨[qO LF 0]⟩ w R := by
 refine enter Tryd.func62 rfl Tryd.ntmps62 rfl hS fun a w hS => ?_
 have hM := hm; clear hm
 rw [xR.m] at hM
 refine qk <| sA hS rfl fun hS => qz <| qk <| sM hS rfl fun hS => sO hS (yu rfl) rfl fun hS => sO hS (xr rfl Tryd.runUnderlying84 rfl Tryd.sizeOf80 rfl) rfl fun hS => sO hS (xW 0 rfl LE rfl rfl Tryd.isAgg80) rfl fun hS => qK hS rfl Tryd.call87 (yX hG K LC.r_ (4 : Int) LJ LS L6 (hS.st.part 1 [1, 0, 2] (by kernel_rfl)) (qx hM) (fun LB Mk LM LQ w hM LT hst => qJ hS.ev hst.appF rfl fun hS => ?_))
 replace hS : Ss _ _ _ H [LQ, LG, LH] F _ _ := hS
 refine sM hS rfl fun hS => sO hS (ex rfl rfl) rfl fun hS => sO hS (ex rfl rfl) rfl fun hS => sA hS rfl fun hS => sA hS rfl fun hS => qz <| wp_seq <| qk <| sM hS rfl fun hS => sB hS rfl fun hS => qz <| qy hS rfl hM (fun L9 hM => ?_) (fun L9 hM => ?_)
 ·refine wp_seq ?_
  refine zI <| sM hS rfl fun hS => sA hS rfl fun hS => qz <| wp_ret <| qA ?_
  exact zm (rs := [2]) hS rfl rfl (hret Mk LM LQ LI LK LC.out_ LH LG _ (qU hM) LT LL LE (hS.st.pick [1, 0, 2] (by kernel_rfl)))
 ·refine wp_skip ?_
  refine qc <| wp_seq ?_
  obtain ⟨Md, hM⟩ := qE hM
  obtain ⟨Me, hM⟩ := qE hM
  obtain ⟨LD, LV⟩ : ∃ x, x = (qi ((wr .i64 ((rd LB (0 : Int)).toNat : Int)) + (qi ((256 : Int) * (wr .i64 ((rd LB (1 : Int)).toNat : Int)))))) := ⟨_, rfl⟩
  replace hM := qB LV hM
  refine zh (vals := [some (yb LB), some (.int .u8 ((rd LB (0 : Int)).toNat : Int)), some (.int .i64 (wr .i64 ((rd LB (0 : Int)).toNat : Int))), some (yb LB), some (.int .u8 ((rd LB (1 : Int)).toNat : Int)), some (.int .i64 (wr .i64 ((rd LB (1 : Int)).toNat : Int))), some (.int .i64 (qi ((256 : Int) * (wr .i64 ((rd LB (1 : Int)).toNat : Int))))), some (.int .i64 (qi ((wr .i64 ((rd LB (0 : Int)).toNat : Int)) + (qi ((256 : Int) * (wr .i64 ((rd LB (1 : Int)).toNat : Int))))))), some (.int .i64 LD)]) hS xH rfl ?_
  intro l w ho hcl hA hst
  refine yo hA hst ho hcl xI [0, 1, 2, 3, 4, 5, 6, 7, 8] rfl rfl rfl (by exact ⟨nM rfl, nQ rfl (by exact qY (KE rfl rfl Tryd.runUnderlying9 Md) rfl), nQ rfl (by exact qY (vH rfl Tryd.runUnderlying5 Tryd.runUnderlying3) rfl), nM rfl, nQ rfl (by exact qY (KE rfl rfl Tryd.runUnderlying9 Me) rfl), nQ rfl (by exact qY (vH rfl Tryd.runUnderlying5 Tryd.runUnderlying3) rfl), nB rfl, nB rfl, nQ rfl (by exact qY (xv rfl) (congrArg (Value.int .i64) LV.symm)), trivial⟩) fun a w hS => ?_
  replace hS := hS.env2 (e' := [(0, qO LF 0), (3, yb LB), (5, .int .i64 LD)]) ⟨rfl, rfl, rfl, trivial⟩
  refine qc <| wp_seq <| wp_seq ?_
  obtain ⟨Mf, hM⟩ := qE hM
  obtain ⟨Mg, hM⟩ := qE hM
  refine zh (vals := [some (yb LB), some (.int .u8 ((rd LB (2 : Int)).toNat : Int)), some (.int .i64 (wr .i64 ((rd LB (2 : Int)).toNat : Int))), some (yb LB), some (.int .u8 ((rd LB (3 : Int)).toNat : Int)), some (.int .i64 (wr .i64 ((rd LB (3 : Int)).toNat : Int))), some (.int .i64 (qi ((256 : Int) * (wr .i64 ((rd LB (3 : Int)).toNat : Int))))), some (.int .i64 (qi ((wr .i64 ((rd LB (2 : Int)).toNat : Int)) + (qi ((256 : Int) * (wr .i64 ((rd LB (3 : Int)).toNat : Int))))))), some (.int .i64 LD), some (.int .i64 (qi ((65535 : Int) - LD))), some (.bool ((qi ((wr .i64 ((rd LB (2 : Int)).toNat : Int)) + (qi ((256 : Int) * (wr .i64 ((rd LB (3 : Int)).toNat : Int)))))) != (qi ((65535 : Int) - LD))))]) hS xH rfl ?_
  intro l w ho hcl hA hst
  refine yo hA hst ho hcl xI [0, 1, 2, 3, 4, 5, 6, 7, 8, 9, 10] rfl rfl rfl (by exact ⟨nM rfl, nQ rfl (by exact qY (KE rfl rfl Tryd.runUnderlying9 Mf) rfl), nQ rfl (by exact qY (vH rfl Tryd.runUnderlying5 Tryd.runUnderlying3) rfl), nM rfl, nQ rfl (by exact qY (KE rfl rfl Tryd.runUnderlying9 Mg) rfl), nQ rfl (by exact qY (vH rfl Tryd.runUnderlying5 Tryd.runUnderlying3) rfl), nB rfl, nB rfl, nM rfl, nB rfl, nB rfl, trivial⟩) fun a w hS => ?_
  replace hS := hS.env2 (e' := [(0, qO LF 0), (5, .int .i64 LD), (37, .bool ((qi ((wr .i64 ((rd LB (2 : Int)).toNat : Int)) + (qi ((256 : Int) * (wr .i64 ((rd LB (3 : Int)).toNat : Int)))))) != (qi ((65535 : Int) - LD))))]) ⟨rfl, rfl, rfl, trivial⟩
  refine qc <| qy hS rfl hM (fun Ma hM => ?_) (fun Ma hM => ?_)
  ·refine wp_seq ?_
   refine zI <| sA hS rfl fun hS => qz <| wp_ret <| qA ?_
   exact zm (rs := [2]) hS rfl rfl (hret (3 : Int) LM LQ LI LK LC.out_ LH LG _ (qU hM) LT LL LE (hS.st.pick [1, 0, 2] (by kernel_rfl)))
  ·refine wp_skip ?_
   refine qc <| qk <| sM hS rfl fun hS => sO hS (yu rfl) rfl fun hS => sO hS (xr rfl Tryd.runUnderlying84 rfl Tryd.sizeOf80 rfl) rfl fun hS => sO hS (xW 1 rfl LE rfl rfl Tryd.isAgg80) rfl fun hS => sM hS rfl fun hS => qK hS rfl Tryd.call87 (yX hG K (qj.mk LC.r_.S_ LM) LD LJ LQ LT (hS.st.part 1 [0, 1, 2] (by kernel_rfl)) (qx hM) (fun Ml Mm LN LR w hM LU hst => qJ hS.ev hst.appF rfl fun hS => ?_))
   replace hS : Ss _ _ _ H [LR, LG, LH] F _ _ := hS
   refine sM hS rfl fun hS => sO hS (ex rfl rfl) rfl fun hS => sO hS (ex rfl rfl) rfl fun hS => sA hS rfl fun hS => sA hS rfl fun hS => qz <| wp_seq <| qk <| sM hS rfl fun hS => sB hS rfl fun hS => qz <| qy hS rfl hM (fun Mb hM => ?_) (fun Mb hM => ?_)
   ·refine wp_seq ?_
    refine zI <| sM hS rfl fun hS => sA hS rfl fun hS => qz <| wp_ret <| qA ?_
    exact zm (rs := [2]) hS rfl rfl (hret Mm LN LR LI LK LC.out_ LH LG _ (qU hM) LU LL LE (hS.st.pick [1, 0, 2] (by kernel_rfl)))
   ·refine wp_skip ?_
    refine qc <| wp_seq <| wp_seq <| zh (vals := [some (.int .i64 LD), some (qO LF 0), some (qO LF 0), some (qO LF 2), some (.int .i64 LC.limit_), some (qO LF 0), some (qO LF 0), some (qO LF 1), some (.slice LI LC.out_.length LK), some (.int .i64 (LC.out_.length : Int)), some (.int .i64 (qi (LC.limit_ - (LC.out_.length : Int)))), some (.bool (decide (LD > (qi (LC.limit_ - (LC.out_.length : Int))))))]) hS xH rfl ?_
    intro l w ho hcl hA hst
    refine yo hA hst ho hcl xI [0, 1, 2, 3, 4, 5, 6, 7, 8, 9, 10, 11] rfl rfl rfl (by exact ⟨nM rfl, nM rfl, nQ rfl (by exact qY (yu rfl) rfl), nQ rfl (by exact qY (xr rfl Tryd.runUnderlying84 rfl Tryd.sizeOf3 rfl) rfl), nQ rfl (by exact qY (xW 1 rfl LE rfl rfl Tryd.isAgg3) rfl), nM rfl, nQ rfl (by exact qY (yu rfl) rfl), nQ rfl (by exact qY (xr rfl Tryd.runUnderlying84 rfl Tryd.sizeOf38 rfl) rfl), nQ rfl (by exact qY (xW 1 rfl LE rfl rfl Tryd.isAgg38) rfl), nQ rfl (by exact qY (ya rfl Tryd.runUnderlying38) rfl), nB rfl, nB rfl, trivial⟩) fun a w hS => ?_
    replace hS := hS.env2 (e' := [(0, qO LF 0), (6, yb Ml), (61, .bool (decide (LD > (qi (LC.limit_ - (LC.out_.length : Int))))))]) ⟨rfl, rfl, rfl, trivial⟩
    refine qc <| qy hS rfl hM (fun Mc hM => ?_) (fun Mc hM => ?_)
    ·refine wp_seq ?_
     refine zI <| sA hS rfl fun hS => qz <| wp_ret <| qA ?_
     exact zm (rs := [2]) hS rfl rfl (hret (11 : Int) LN LR LI LK LC.out_ LH LG _ (qU hM) LU LL LE (hS.st.pick [1, 0, 2] (by kernel_rfl)))
    ·refine wp_skip ?_
     refine qc <| qk <| sM hS rfl fun hS => sM hS rfl fun hS => sO hS (yu rfl) rfl fun hS => sO hS (xr rfl Tryd.runUnderlying84 rfl Tryd.sizeOf38 rfl) rfl fun hS => sO hS (xW 1 rfl LE rfl rfl Tryd.isAgg38) rfl fun hS => sM hS rfl fun hS => ?_
     obtain ⟨Mh, hM⟩ := qE hM
     refine GV 2 hS rfl rfl LL rfl Tryd.runUnderlying38 Tryd.runUnderlying9 X.el5 rfl Mh rfl fun LW w LX LZ Mi hz L8 hS => ?_
     have hM := qB hz hM; clear hz
     refine sO hS (yu rfl) rfl fun hS => sO hS (xr rfl Tryd.runUnderlying84 rfl Tryd.sizeOf38 rfl) rfl fun hS => U8 1 ([qO LJ 0, .slice LX LW.length LZ, .int .i64 LC.limit_]) hS rfl rfl LE rfl rfl rfl rfl Tryd.sizeOf38 fun w Mj L7 hS => qz <| qk <| sA hS rfl fun hS => qz <| wp_ret ?_
     exact zm (rs := [2]) hS rfl rfl (hret (0 : Int) LN LR LX LZ LW Mi Mj _ (qU hM) LU L8 L7 (hS.st.pick [1, 0, 2] (by kernel_rfl)))
theorem ve {H : xU} {F : List qm} {w : World} {R : Ending → World → Prop} {kr : ((List Int) × (List Int)) → Prop} {kp : Value → Prop} (hG : Gl H) (K : Nat)
    (hS : St w H [] F) (hm : (zt.m K).wp kr kp)
    (hret : ∀ (L5 : Option Addr) (L7 : Nat) (L3 : (List Int)) (L9 : qm) (L6 : Option Addr) (L8 : Nat) (L4 : (List Int)) (Ma : qm) (w : World), kr (L3, L4) → (xh 3 (ci .i64) 1 L5 L3 L7 L9) → (xh 3 (ci .i64) 1 L6 L4 L8 Ma) → St w H [L9, Ma] F → R (.returned (.tuple ⟨[.slice L5 L3.length L7, .slice L6 L4.length L8]⟩)) w) :
    Calls Tryd.prog 26 ⟨[]⟩ w R := by
 refine enter Tryd.func26 rfl Tryd.ntmps26 rfl hS fun a w hS => ?_
 have hM := hm; clear hm
 rw [zt.m] at hM
 refine qk <| sA hS rfl fun hS => ?_
 obtain ⟨MK, MF, hS⟩ := hS.nilV 3 (ci .i64) 1
 refine sA hS rfl fun hS => ?_
 obtain ⟨ML, MG, hS⟩ := hS.nilV 3 (ci .i64) 1
 refine qz <| wp_seq <| zI ?_
 obtain ⟨Mr, hM⟩ := qE hM
 refine Ui (g := (ci .i64)) (m := (288 : Int)) (0 : Int) hS rfl rfl (by simp) Tryd.runUnderlying45 X.el3 (fun w => ⟨_, Tryd.zeroValue3 w, rfl⟩) (fun _ => rfl) rfl rfl Mr rfl fun Mt w LB LC Mv hz Mf hS => ?_
 have hM := qB hz hM; clear hz
 refine sA hS rfl fun hS => qz <| zx (fun a w => ∃ (LG : (List Int)) (LK : qm), Ss 40 [] [(2, .slice LB LG.length LC)] H [LK] F a w ∧ (xh 3 (ci .i64) 1 LB LG LC LK) ∧ (zt.j2 K LG).wp kr kp) (fun MI Md => ?_) ?_
 ·refine wp_seq ?_
  refine zI <| sA hS rfl fun hS => qz <| xJ <| zv (fun Mb a w => ∃ (LD : (List Int)) (LS : qm) (LE : Int), Ss 40 [] [(2, .slice LB LD.length LC), (3, .int .i64 LE)] H [LS] F a w ∧ (xh 3 (ci .i64) 1 LB LD LC LS) ∧ (zt.l1 K Mb LD LE).wp kr kp) K ?_ ?_ ?_
  ·exact ⟨Mt, Mv, (0 : Int), hS.to [0] (by kernel_rfl) ⟨rfl, rfl, trivial⟩, Mf, hM⟩
  ·intro a w hI; obtain ⟨_, _, _, _, _, hM⟩ := hI; exact zr hM
  ·intro Mb a w hI MH LM
   obtain ⟨LD, LS, LE, hS, LF, hM⟩ := hI
   rw [zt.l1] at hM
   refine wp_seq <| qk <| sM hS rfl fun hS => sB hS rfl fun hS => qz <| qy hS rfl hM (fun Mm hM => ?_) (fun Mm hM => ?_)
   ·refine wp_skip ?_
    refine qc <| wp_seq <| xJ <| xJ <| qk <| sM hS rfl fun hS => sB hS rfl fun hS => sM hS rfl fun hS => yw 2 false 17 (b := (decide (LE < (144 : Int)))) (r := (decide (LE > (279 : Int)))) hS rfl rfl rfl rfl rfl rfl rfl (fun hb a w hS K hK => ?_) rfl fun a w hS => ?_
    ·refine zK hS rfl rfl rfl hb (mv rfl) rfl fun a w hS => ?_
     refine zK hS rfl rfl rfl hb (yZ rfl rfl rfl) rfl fun a w hS => ?_
     exact zd (hK _ _ (hS.up 2 rfl rfl))
    refine zH (v := Value.bool) (x0 := ((decide (LE < (144 : Int))) || (decide (LE > (279 : Int))))) hS (xv rfl) rfl fun MM a w hz hS => ?_
    have hM := qB hz hM; clear hz
    refine qz <| qy hS rfl hM (fun Mn hM => ?_) (fun Mn hM => ?_)
    ·refine zI ?_
     refine sM hS rfl fun hS => sM hS rfl fun hS => ?_
     obtain ⟨LU, hM⟩ := qE hM
     refine sO hS (x6 rfl rfl Tryd.runUnderlying45 Tryd.sizeOf3 (LF.rd (i := 0) rfl) (fun _ => rfl) rfl LU) rfl fun hS => Xj (i := LE) (sz := 1) 0 0 ((8 : Int)) hS rfl rfl LF rfl Tryd.sizeOf3 (xG (8 : Int)) (fun _ => rfl) LU rfl rfl fun LO w Mw hz LY Mg hS => ?_
     have hM := qB hz hM; clear hz
     replace hS := hS.re 2 (u := .slice LB LD.length LC) (v := .slice LB LO.length LC) rfl (by rw [LY])
     replace hS := hS.re 21 (u := .slice LB LD.length LC) (v := .slice LB LO.length LC) rfl (by rw [LY])
     refine zd <| zz (zz (qc ?_))
     refine zI <| sM hS rfl fun hS => sB hS rfl fun hS => zH (v := Value.int .i64) (x0 := (qi (LE + (1 : Int)))) hS (xv rfl) rfl fun MB a w hz hS => ?_
     have hM := qB hz hM; clear hz
     refine zd <| qc ?_
     exact LM _ _ ⟨LO, Mw, MB, hS.to [0] (by kernel_rfl) ⟨rfl, rfl, trivial⟩, Mg, hM⟩
    ·refine wp_seq ?_
     refine zI <| sM hS rfl fun hS => sB hS rfl fun hS => zH (v := Value.bool) (x0 := (decide (LE < (256 : Int)))) hS (xv rfl) rfl fun MN a w hz hS => ?_
     have hM := qB hz hM; clear hz
     refine qz <| qy hS rfl hM (fun Mp hM => ?_) (fun Mp hM => ?_)
     ·refine zI ?_
      refine sM hS rfl fun hS => sM hS rfl fun hS => ?_
      obtain ⟨LV, hM⟩ := qE hM
      refine sO hS (x6 rfl rfl Tryd.runUnderlying45 Tryd.sizeOf3 (LF.rd (i := 0) rfl) (fun _ => rfl) rfl LV) rfl fun hS => Xj (i := LE) (sz := 1) 0 0 ((9 : Int)) hS rfl rfl LF rfl Tryd.sizeOf3 (xG (9 : Int)) (fun _ => rfl) LV rfl rfl fun LP w Mx hz LZ Mh hS => ?_
      have hM := qB hz hM; clear hz
      replace hS := hS.re 2 (u := .slice LB LD.length LC) (v := .slice LB LP.length LC) rfl (by rw [LZ])
      replace hS := hS.re 27 (u := .slice LB LD.length LC) (v := .slice LB LP.length LC) rfl (by rw [LZ])
      refine zd <| zz (zz (qc ?_))
      refine zI <| sM hS rfl fun hS => sB hS rfl fun hS => zH (v := Value.int .i64) (x0 := (qi (LE + (1 : Int)))) hS (xv rfl) rfl fun MC a w hz hS => ?_
      have hM := qB hz hM; clear hz
      refine zd <| qc ?_
      exact LM _ _ ⟨LP, Mx, MC, hS.to [0] (by kernel_rfl) ⟨rfl, rfl, trivial⟩, Mh, hM⟩
     ·refine zI ?_
      refine sM hS rfl fun hS => sM hS rfl fun hS => ?_
      obtain ⟨LW, hM⟩ := qE hM
      refine sO hS (x6 rfl rfl Tryd.runUnderlying45 Tryd.sizeOf3 (LF.rd (i := 0) rfl) (fun _ => rfl) rfl LW) rfl fun hS => Xj (i := LE) (sz := 1) 0 0 ((7 : Int)) hS rfl rfl LF rfl Tryd.sizeOf3 (xG (7 : Int)) (fun _ => rfl) LW rfl rfl fun LQ w My hz L0 Mi hS => ?_
      have hM := qB hz hM; clear hz
      replace hS := hS.re 2 (u := .slice LB LD.length LC) (v := .slice LB LQ.length LC) rfl (by rw [L0])
      replace hS := hS.re 11 (u := .slice LB LD.length LC) (v := .slice LB LQ.length LC) rfl (by rw [L0])
      refine zd <| zz (zz (qc ?_))
      refine zI <| sM hS rfl fun hS => sB hS rfl fun hS => zH (v := Value.int .i64) (x0 := (qi (LE + (1 : Int)))) hS (xv rfl) rfl fun MD a w hz hS => ?_
      have hM := qB hz hM; clear hz
      refine zd <| qc ?_
      exact LM _ _ ⟨LQ, My, MD, hS.to [0] (by kernel_rfl) ⟨rfl, rfl, trivial⟩, Mi, hM⟩
   ·refine wp_exit ?_
    refine qC (qC (q9 (qc ?_)))
    exact Md _ _ ⟨LD, LS, hS.to [0] (by kernel_rfl) ⟨rfl, trivial⟩, LF, hM⟩
 ·intro a w hI
  obtain ⟨LG, LK, hS, Mj, hM⟩ := hI
  rw [zt.j2] at hM
  refine wp_seq <| zI ?_
  obtain ⟨Ms, hM⟩ := qE hM
  refine Ui (g := (ci .i64)) (m := (32 : Int)) (0 : Int) hS rfl rfl (by simp) Tryd.runUnderlying45 X.el3 (fun w => ⟨_, Tryd.zeroValue3 w, rfl⟩) (fun _ => rfl) rfl rfl Ms rfl fun Mu w LH LI Mz hz Mk hS => ?_
  have hM := qB hz hM; clear hz
  refine sA hS rfl fun hS => qz <| wp_seq <| qk <| sA hS rfl fun hS => qz <| xJ <| zv (fun Mc a w => ∃ (LJ : (List Int)) (LT : qm) (LL : Int), Ss 40 [] [(2, .slice LB LG.length LC), (4, .slice LH LJ.length LI), (5, .int .i64 LL)] H [LK, LT] F a w ∧ (xh 3 (ci .i64) 1 LH LJ LI LT) ∧ (zt.l3 K LG Mc LJ LL).wp kr kp) K ?_ ?_ ?_
  ·exact ⟨Mu, Mz, (0 : Int), hS.to [1, 0] (by kernel_rfl) ⟨rfl, rfl, rfl, trivial⟩, Mk, hM⟩
  ·intro a w hI; obtain ⟨_, _, _, _, _, hM⟩ := hI; exact zr hM
  ·intro Mc a w hI MJ Me
   obtain ⟨LJ, LT, LL, hS, LN, hM⟩ := hI
   rw [zt.l3] at hM
   refine wp_seq <| qk <| sM hS rfl fun hS => sB hS rfl fun hS => qz <| qy hS rfl hM (fun Mq hM => ?_) (fun Mq hM => ?_)
   ·refine wp_skip ?_
    refine qc <| wp_seq <| xJ <| zI <| sM hS rfl fun hS => sM hS rfl fun hS => ?_
    obtain ⟨LX, hM⟩ := qE hM
    refine sO hS (x6 rfl rfl Tryd.runUnderlying45 Tryd.sizeOf3 (LN.rd (i := 1) rfl) (fun _ => rfl) rfl LX) rfl fun hS => Xj (i := LL) (sz := 1) 1 0 ((5 : Int)) hS rfl rfl LN rfl Tryd.sizeOf3 (xG (5 : Int)) (fun _ => rfl) LX rfl rfl fun LR w MA hz L1 Ml hS => ?_
    have hM := qB hz hM; clear hz
    replace hS := hS.re 4 (u := .slice LH LJ.length LI) (v := .slice LH LR.length LI) rfl (by rw [L1])
    replace hS := hS.re 35 (u := .slice LH LJ.length LI) (v := .slice LH LR.length LI) rfl (by rw [L1])
    refine zd <| zz (qc ?_)
    refine zI <| sM hS rfl fun hS => sB hS rfl fun hS => zH (v := Value.int .i64) (x0 := (qi (LL + (1 : Int)))) hS (xv rfl) rfl fun ME a w hz hS => ?_
    have hM := qB hz hM; clear hz
    refine zd <| qc ?_
    exact Me _ _ ⟨LR, MA, ME, hS.to [0, 1] (by kernel_rfl) ⟨rfl, rfl, rfl, trivial⟩, Ml, hM⟩
   ·refine wp_exit ?_
    refine qC (qC (q9 (qc ?_)))
    refine qk <| sM hS rfl fun hS => sM hS rfl fun hS => sA hS rfl fun hS => sA hS rfl fun hS => qz <| wp_ret ?_
    exact zm (rs := [0, 1]) hS rfl rfl (hret LB LC LG LK LH LI LJ LT _ (qU hM) Mj LN (hS.st.pick [0, 1] (by kernel_rfl)))
theorem Qs {H : xU} {F : List qm} {w : World} {R : Ending → World → Prop} {kr : Int → Prop} {kp : Value → Prop} (hG : Gl H) (K : Nat) (LE : List Int) (LP : Option Addr) (LQ : Nat) (LD : jn H [] F (ci .i64) LP LE) (L9 : LE.length ≤ LQ)
    (hS : St w H [] F) (hm : (qM.m K LE).wp kr kp)
    (hret : ∀ (LX : Int) (w : World), kr LX → St w H [] F → R (.returned (.int .i64 LX)) w) :
    Calls Tryd.prog 51 ⟨[.slice LP LE.length LQ]⟩ w R := by
 refine enter Tryd.func51 rfl Tryd.ntmps51 rfl hS fun a w hS => ?_
 have hM := hm; clear hm
 rw [qM.m] at hM
 refine qk <| sA hS rfl fun hS => qz <| wp_seq <| qk <| sM hS rfl fun hS => sO hS (ya rfl Tryd.runUnderlying45) rfl fun hS => sB hS rfl fun hS => qz <| qy hS rfl hM (fun LZ hM => ?_) (fun LZ hM => ?_)
 ·refine wp_seq ?_
  refine zI <| sA hS rfl fun hS => qz <| wp_ret <| qA ?_
  exact zm (rs := [2]) hS rfl rfl (hret (1 : Int) _ (qU hM) (hS.st.pick [] (by kernel_rfl)))
 ·refine wp_skip ?_
  refine qc <| qk <| sA hS rfl fun hS => qz <| qk <| sA hS rfl fun hS => qz <| qk <| sA hS rfl fun hS => qz <| zx (fun a w => ∃ (LB : Int) (LM : Int) (LI : Int), Ss 62 [] [(3, .int .i64 LB), (4, .int .i64 LM), (5, .int .i64 LI)] H [] F a w ∧ (qM.j2 K LB LM LI).wp kr kp) (fun Mb LY => ?_) ?_
  ·refine wp_seq ?_
   refine zI <| sA hS rfl fun hS => qz <| xJ <| zv (fun LW a w => ∃ (LG : Int) (LJ : Int) (LF : Int) (LH : Int), Ss 62 [] [(0, .slice LP LE.length LQ), (3, .int .i64 LG), (4, .int .i64 LJ), (5, .int .i64 LF), (6, .int .i64 LH)] H [] F a w ∧ (qM.l1 K LE LW LG LJ LF LH).wp kr kp) K ?_ ?_ ?_
   ·exact ⟨(0 : Int), (0 : Int), (0 : Int), (0 : Int), hS.to [] (by kernel_rfl) ⟨rfl, rfl, rfl, rfl, rfl, trivial⟩, hM⟩
   ·intro a w hI; obtain ⟨_, _, _, _, _, hM⟩ := hI; exact zr hM
   ·intro LW a w hI Ma LR
    obtain ⟨LG, LJ, LF, LH, hS, hM⟩ := hI
    rw [qM.l1] at hM
    refine wp_seq <| qk <| sM hS rfl fun hS => sM hS rfl fun hS => sO hS (ya rfl Tryd.runUnderlying45) rfl fun hS => sB hS rfl fun hS => qz <| qy hS rfl hM (fun L0 hM => ?_) (fun L0 hM => ?_)
    ·refine wp_skip ?_
     refine qc <| wp_seq <| xJ <| wp_seq <| qk <| sM hS rfl fun hS => sM hS rfl fun hS => ?_
     obtain ⟨LC, hM⟩ := qE hM
     refine sO hS (x6 rfl rfl Tryd.runUnderlying45 Tryd.sizeOf3 LD.wk (fun _ => rfl) rfl LC) rfl fun hS => sO hS (x9 rfl LD.wk (fun _ => rfl) LC rfl Tryd.isAgg3) rfl fun hS => sB hS rfl fun hS => sM hS rfl fun hS => yw 5 false 21 (b := (decide ((rd LE LH) < (0 : Int)))) (r := (decide ((rd LE LH) > (15 : Int)))) hS rfl rfl rfl rfl rfl rfl rfl (fun hb a w hS K hK => ?_) rfl fun a w hS => ?_
     ·refine zK hS rfl rfl rfl hb (mv rfl) rfl fun a w hS => ?_
      refine zK hS rfl rfl rfl hb (mv rfl) rfl fun a w hS => zK hS rfl rfl rfl hb (x6 rfl rfl Tryd.runUnderlying45 Tryd.sizeOf3 LD.wk (fun _ => rfl) rfl LC) rfl fun a w hS => zK hS rfl rfl rfl hb (x9 rfl LD.wk (fun _ => rfl) LC rfl Tryd.isAgg3) rfl fun a w hS => zK hS rfl rfl rfl hb (yZ rfl rfl rfl) rfl fun a w hS => ?_
      exact zd (hK _ _ (hS.up 5 rfl rfl))
     refine qz <| qy hS rfl hM (fun L1 hM => ?_) (fun L1 hM => ?_)
     ·refine wp_seq ?_
      refine zI <| sA hS rfl fun hS => qz <| wp_ret <| qA (z3 (qA (qA (z3 (qA ?_)))))
      exact zm (rs := [2]) hS rfl rfl (hret (1 : Int) _ (qU hM) (hS.st.pick [] (by kernel_rfl)))
     ·refine wp_skip ?_
      refine qc <| qk <| sM hS rfl fun hS => sM hS rfl fun hS => sO hS (x6 rfl rfl Tryd.runUnderlying45 Tryd.sizeOf3 LD.wk (fun _ => rfl) rfl LC) rfl fun hS => sO hS (x9 rfl LD.wk (fun _ => rfl) LC rfl Tryd.isAgg3) rfl fun hS => sB hS rfl fun hS => qz <| qy hS rfl hM (fun L3 hM => ?_) (fun L3 hM => ?_)
      ·refine wp_seq ?_
       refine zI <| sM hS rfl fun hS => sM hS rfl fun hS => sM hS rfl fun hS => sO hS (x6 rfl rfl Tryd.runUnderlying45 Tryd.sizeOf3 LD.wk (fun _ => rfl) rfl LC) rfl fun hS => sO hS (x9 rfl LD.wk (fun _ => rfl) LC rfl Tryd.isAgg3) rfl fun hS => sB hS rfl fun hS => sO hS (vH rfl Tryd.runUnderlying3 Tryd.runUnderlying39) rfl fun hS => ?_
       obtain ⟨L5, hM⟩ := qE hM
       refine sO hS (shl rfl rfl L5) rfl fun hS => sB hS rfl fun hS => zH (v := Value.int .i64) (x0 := (qi (LG + (xl .i64 (1 : Int) (wr .u64 (qi ((15 : Int) - (rd LE LH)))))))) hS (xv rfl) rfl fun LV a w hz hS => ?_
       have hM := qB hz hM; clear hz
       refine qz <| qk <| sM hS rfl fun hS => sB hS rfl fun hS => zH (v := Value.int .i64) (x0 := (qi (LJ + (1 : Int)))) hS (xv rfl) rfl fun L6 a w hz hS => ?_
       have hM := qB hz hM; clear hz
       refine qz <| zI <| sM hS rfl fun hS => sM hS rfl fun hS => sO hS (x6 rfl rfl Tryd.runUnderlying45 Tryd.sizeOf3 LD.wk (fun _ => rfl) rfl LC) rfl fun hS => sO hS (x9 rfl LD.wk (fun _ => rfl) LC rfl Tryd.isAgg3) rfl fun hS => zH (v := Value.int .i64) (x0 := (rd LE LH)) hS (xv rfl) rfl fun LU a w hz hS => ?_
       have hM := qB hz hM; clear hz
       refine zd <| zz (qc ?_)
       refine zI <| sM hS rfl fun hS => sB hS rfl fun hS => zH (v := Value.int .i64) (x0 := (qi (LH + (1 : Int)))) hS (xv rfl) rfl fun L7 a w hz hS => ?_
       have hM := qB hz hM; clear hz
       refine zd <| qc ?_
       exact LR _ _ ⟨LV, L6, LU, L7, hS.to [] (by kernel_rfl) ⟨rfl, rfl, rfl, rfl, rfl, trivial⟩, hM⟩
      ·refine wp_skip ?_
       refine zz (qc ?_)
       refine zI <| sM hS rfl fun hS => sB hS rfl fun hS => zH (v := Value.int .i64) (x0 := (qi (LH + (1 : Int)))) hS (xv rfl) rfl fun L8 a w hz hS => ?_
       have hM := qB hz hM; clear hz
       refine zd <| qc ?_
       exact LR _ _ ⟨LG, LJ, LF, L8, hS.to [] (by kernel_rfl) ⟨rfl, rfl, rfl, rfl, rfl, trivial⟩, hM⟩
    ·refine wp_exit ?_
     refine qC (qC (q9 (qc ?_)))
     exact LY _ _ ⟨LG, LJ, LF, hS.to [] (by kernel_rfl) ⟨rfl, rfl, rfl, trivial⟩, hM⟩
  ·intro a w hI
   obtain ⟨LB, LM, LI, hS, hM⟩ := hI
   rw [qM.j2] at hM
   refine wp_seq <| qk <| sM hS rfl fun hS => sB hS rfl fun hS => sM hS rfl fun hS => v4 (fun a w => ∃ (LO : Bool), Ss 62 [] [(3, .int .i64 LB), (57, .bool LO)] H [] F a w ∧ (qM.j4 K LB LO).wp kr kp) 7 (fun Md LT => ?_) ?_
   ·refine UM (b := (LM == (0 : Int))) hM (fun LK hM => ?_) (fun LK hM => ?_)
    ·replace hS := hS.re 49 (v := .bool true) rfl (congrArg Value.bool LK)
     replace hS := hS.re 50 (v := .bool true) rfl (congrArg Value.bool LK)
     refine X4 6 hS rfl fun a w hS => sO hS (pk rfl rfl rfl) rfl fun hS => zd <| qc ?_
     exact LT _ _ ⟨true, hS.to [] (by kernel_rfl) ⟨rfl, rfl, trivial⟩, hM⟩
    ·replace hS := hS.re 49 (v := .bool false) rfl (congrArg Value.bool LK)
     replace hS := hS.re 50 (v := .bool false) rfl (congrArg Value.bool LK)
     refine zK hS rfl rfl rfl rfl (mv rfl) rfl fun a w hS => zK hS rfl rfl rfl rfl (yZ rfl rfl rfl) rfl fun a w hS => zK hS rfl rfl rfl rfl (mv rfl) rfl fun a w hS => v4 (fun a w => ∃ (LN : Bool), Ss 62 [] [(3, .int .i64 LB), (50, .bool false), (56, .bool LN)] H [] F a w ∧ (qM.j3 K LB LN).wp kr kp) 3 (fun Mc LS => ?_) ?_
     ·refine UM (b := (LM == (1 : Int))) hM (fun LL hM => ?_) (fun LL hM => ?_)
      ·replace hS := hS.re 52 (v := .bool true) rfl (congrArg Value.bool LL)
       replace hS := hS.re 53 (v := .bool true) rfl (congrArg Value.bool LL)
       refine zK hS rfl rfl rfl rfl (mv rfl) rfl fun a w hS => zK hS rfl rfl rfl rfl (yZ rfl rfl rfl) rfl fun a w hS => zK hS rfl rfl rfl rfl (pk rfl rfl rfl) rfl fun a w hS => zd <| qc ?_
       exact LS _ _ ⟨(LI == (1 : Int)), hS.to [] (by kernel_rfl) ⟨rfl, rfl, rfl, trivial⟩, hM⟩
      ·replace hS := hS.re 52 (v := .bool false) rfl (congrArg Value.bool LL)
       replace hS := hS.re 53 (v := .bool false) rfl (congrArg Value.bool LL)
       refine X4 2 hS rfl fun a w hS => zK hS rfl rfl rfl rfl (pk rfl rfl rfl) rfl fun a w hS => zd <| qc ?_
       exact LS _ _ ⟨false, hS.to [] (by kernel_rfl) ⟨rfl, rfl, rfl, trivial⟩, hM⟩
     ·intro a w hI
      obtain ⟨LN, hS, hM⟩ := hI
      rw [qM.j3] at hM
      refine sO hS (pk rfl rfl rfl) rfl fun hS => zd <| qc ?_
      exact LT _ _ ⟨LN, hS.to [] (by kernel_rfl) ⟨rfl, rfl, trivial⟩, hM⟩
   ·intro a w hI
    obtain ⟨LO, hS, hM⟩ := hI
    rw [qM.j4] at hM
    refine sM hS rfl fun hS => yw 2 false 58 (b := LO) (r := (LB == (32768 : Int))) hS rfl rfl rfl rfl rfl rfl rfl (fun hb a w hS K hK => ?_) rfl fun a w hS => ?_
    ·refine zK hS rfl rfl rfl hb (mv rfl) rfl fun a w hS => ?_
     refine zK hS rfl rfl rfl hb (yZ rfl rfl rfl) rfl fun a w hS => ?_
     exact zd (hK _ _ (hS.up 2 rfl rfl))
    refine qz <| qy hS rfl hM (fun L4 hM => ?_) (fun L4 hM => ?_)
    ·refine wp_seq ?_
     refine zI <| sA hS rfl fun hS => qz <| wp_ret <| qA ?_
     exact zm (rs := [2]) hS rfl rfl (hret (0 : Int) _ (qU hM) (hS.st.pick [] (by kernel_rfl)))
    ·refine wp_skip ?_
     refine qc <| qk <| sA hS rfl fun hS => qz <| wp_ret ?_
     exact zm (rs := [2]) hS rfl rfl (hret (3 : Int) _ (qU hM) (hS.st.pick [] (by kernel_rfl)))
theorem jc {H : xU} {F : List qm} {w : World} {R : Ending → World → Prop} {kr : ((List Int) × Int) → Prop} {kp : Value → Prop} (hG : Gl H) (K : Nat) (LD : List Int) (LL : Option Addr) (LM : Nat) (LP : jn H [] F (ci .i64) LL LD) (Mf : LD.length ≤ LM)
    (hS : St w H [] F) (hm : (zb.m K LD).wp kr kp)
    (hret : ∀ (L1 : Option Addr) (L3 : Nat) (L0 : (List Int)) (L4 : qm) (L6 : Int) (w : World), kr (L0, L6) → (xh 3 (ci .i64) 1 L1 L0 L3 L4) → St w H [L4] F → R (.returned (.tuple ⟨[.slice L1 L0.length L3, .int .i64 L6]⟩)) w) :
    Calls Tryd.prog 27 ⟨[.slice LL LD.length LM]⟩ w R := by
 refine enter Tryd.func27 rfl Tryd.ntmps27 rfl hS fun a w hS => ?_
 have hM := hm; clear hm
 rw [zb.m] at hM
 refine qk <| sA hS rfl fun hS => ?_
 obtain ⟨Mi, Mq, hS⟩ := hS.nilV 3 (ci .i64) 1
 refine sA hS rfl fun hS => qz <| qk <| sM hS rfl fun hS => qK hS rfl Tryd.call51 (Qs hG K LD LL LM (LP.app _) Mf (hS.st.part 0 [0] (by kernel_rfl)) (qx hM) (fun Mp w hM  hst => qJ hS.ev hst.appF rfl fun hS => ?_))
 replace hS : Ss _ _ _ H [Mi] F _ _ := hS
 refine sA hS rfl fun hS => qz <| wp_seq <| qk <| sM hS rfl fun hS => sB hS rfl fun hS => qz <| qy hS rfl hM (fun Mb hM => ?_) (fun Mb hM => ?_)
 ·refine wp_seq ?_
  refine zI <| sM hS rfl fun hS => sA hS rfl fun hS => ?_
  obtain ⟨Mj, L8, hS⟩ := hS.nilV 3 (ci .i64) 1
  refine sA hS rfl fun hS => qz <| wp_ret <| qA ?_
  exact zm (rs := [2, 3]) hS rfl rfl (hret none (0) ([] : List Int) Mj Mp _ (qU hM) L8 (hS.st.pick [0] (by kernel_rfl)))
 ·refine wp_skip ?_
  refine qc <| qk <| sM hS rfl fun hS => sO hS (ya rfl Tryd.runUnderlying45) rfl fun hS => ?_
  obtain ⟨Mg, hM⟩ := qE hM
  refine Ui (g := (ci .i64)) (m := (LD.length : Int)) (0 : Int) hS rfl rfl (by simp) Tryd.runUnderlying45 X.el3 (fun w => ⟨_, Tryd.zeroValue3 w, rfl⟩) (fun _ => rfl) rfl rfl Mg rfl fun Mh w LG LH Mk hz L9 hS => ?_
  have hM := qB hz hM; clear hz
  refine sA hS rfl fun hS => qz <| qk <| sA hS rfl fun hS => qz <| wp_seq <| qk <| sA hS rfl fun hS => qz <| xJ <| zv (fun LZ a w => ∃ (LF : (List Int)) (LN : qm) (LI : Int) (LB : Int), Ss 42 [] [(0, .slice LL LD.length LM), (5, .slice LG LF.length LH), (6, .int .i64 LI), (7, .int .i64 LB)] H [LN] F a w ∧ (xh 3 (ci .i64) 1 LG LF LH LN) ∧ (zb.l1 K LD LZ LF LI LB).wp kr kp) K ?_ ?_ ?_
  ·exact ⟨Mh, Mk, (0 : Int), (1 : Int), hS.to [0] (by kernel_rfl) ⟨rfl, rfl, rfl, rfl, trivial⟩, L9, hM⟩
  ·intro a w hI; obtain ⟨_, _, _, _, _, _, hM⟩ := hI; exact zr hM
  ·intro LZ a w hI Ms L7
   obtain ⟨LF, LN, LI, LB, hS, LV, hM⟩ := hI
   rw [zb.l1] at hM
   refine wp_seq <| qk <| sM hS rfl fun hS => sB hS rfl fun hS => qz <| qy hS rfl hM (fun Mc hM => ?_) (fun Mc hM => ?_)
   ·refine wp_skip ?_
    refine qc <| wp_seq <| xJ <| qk <| sM hS rfl fun hS => sB hS rfl fun hS => zH (v := Value.int .i64) (x0 := (qi (LI * (2 : Int)))) hS (xv rfl) rfl fun LS a w hz hS => ?_
    have hM := qB hz hM; clear hz
    refine qz <| qk <| sA hS rfl fun hS => qz <| xJ <| zv (fun L5 a w => ∃ (LE : (List Int)) (LO : qm) (LC : Int) (LJ : Int), Ss 42 [] [(0, .slice LL LD.length LM), (5, .slice LG LE.length LH), (6, .int .i64 LC), (7, .int .i64 LB), (8, .int .i64 LJ)] H [LO] F a w ∧ (xh 3 (ci .i64) 1 LG LE LH LO) ∧ (zb.l2 K (zb.l1 K LD LZ) LD LB L5 LE LC LJ).wp kr kp) K ?_ ?_ ?_
    ·exact ⟨LF, LN, LS, (0 : Int), hS.to [0] (by kernel_rfl) ⟨rfl, rfl, rfl, rfl, rfl, trivial⟩, LV, hM⟩
    ·intro a w hI; obtain ⟨_, _, _, _, _, _, hM⟩ := hI; exact zr hM
    ·intro L5 a w hI Mr LU
     obtain ⟨LE, LO, LC, LJ, hS, LK, hM⟩ := hI
     rw [zb.l2] at hM
     refine wp_seq <| qk <| sM hS rfl fun hS => sM hS rfl fun hS => sO hS (ya rfl Tryd.runUnderlying45) rfl fun hS => sB hS rfl fun hS => qz <| qy hS rfl hM (fun Md hM => ?_) (fun Md hM => ?_)
     ·refine wp_skip ?_
      refine qc <| wp_seq <| xJ <| qk <| sM hS rfl fun hS => sM hS rfl fun hS => ?_
      obtain ⟨LW, hM⟩ := qE hM
      refine sO hS (x6 rfl rfl Tryd.runUnderlying45 Tryd.sizeOf3 LP.wk (fun _ => rfl) rfl LW) rfl fun hS => sO hS (x9 rfl LP.wk (fun _ => rfl) LW rfl Tryd.isAgg3) rfl fun hS => sM hS rfl fun hS => sB hS rfl fun hS => qz <| qy hS rfl hM (fun Me hM => ?_) (fun Me hM => ?_)
      ·refine wp_seq ?_
       refine zI <| sM hS rfl fun hS => sM hS rfl fun hS => sM hS rfl fun hS => ?_
       obtain ⟨LX, hM⟩ := qE hM
       refine sO hS (x6 rfl rfl Tryd.runUnderlying45 Tryd.sizeOf3 (LK.rd (i := 0) rfl) (fun _ => rfl) rfl LX) rfl fun hS => Xj (i := LJ) (sz := 1) 0 0 (LC) hS rfl rfl LK rfl Tryd.sizeOf3 (xG LC) (fun _ => rfl) LX rfl rfl fun LR w Ml hz LY Ma hS => ?_
       have hM := qB hz hM; clear hz
       replace hS := hS.re 5 (u := .slice LG LE.length LH) (v := .slice LG LR.length LH) rfl (by rw [LY])
       replace hS := hS.re 35 (u := .slice LG LE.length LH) (v := .slice LG LR.length LH) rfl (by rw [LY])
       refine qz <| zI <| sM hS rfl fun hS => sB hS rfl fun hS => zH (v := Value.int .i64) (x0 := (qi (LC + (1 : Int)))) hS (xv rfl) rfl fun LT a w hz hS => ?_
       have hM := qB hz hM; clear hz
       refine zd <| zz (qc ?_)
       refine zI <| sM hS rfl fun hS => sB hS rfl fun hS => zH (v := Value.int .i64) (x0 := (qi (LJ + (1 : Int)))) hS (xv rfl) rfl fun Mm a w hz hS => ?_
       have hM := qB hz hM; clear hz
       refine zd <| qc ?_
       exact LU _ _ ⟨LR, Ml, LT, Mm, hS.to [0] (by kernel_rfl) ⟨rfl, rfl, rfl, rfl, rfl, trivial⟩, Ma, hM⟩
      ·refine wp_skip ?_
       refine zz (qc ?_)
       refine zI <| sM hS rfl fun hS => sB hS rfl fun hS => zH (v := Value.int .i64) (x0 := (qi (LJ + (1 : Int)))) hS (xv rfl) rfl fun Mn a w hz hS => ?_
       have hM := qB hz hM; clear hz
       refine zd <| qc ?_
       exact LU _ _ ⟨LE, LO, LC, Mn, hS.to [0] (by kernel_rfl) ⟨rfl, rfl, rfl, rfl, rfl, trivial⟩, LK, hM⟩
     ·refine wp_exit ?_
      refine qC (qC (q9 (zz (qc ?_))))
      refine zI <| sM hS rfl fun hS => sB hS rfl fun hS => zH (v := Value.int .i64) (x0 := (qi (LB + (1 : Int)))) hS (xv rfl) rfl fun LQ a w hz hS => ?_
      have hM := qB hz hM; clear hz
      refine zd <| qc ?_
      exact L7 _ _ ⟨LE, LO, LC, LQ, hS.to [0] (by kernel_rfl) ⟨rfl, rfl, rfl, rfl, trivial⟩, LK, hM⟩
   ·refine wp_exit ?_
    refine qC (qC (q9 (qc ?_)))
    refine qk <| sM hS rfl fun hS => sA hS rfl fun hS => sA hS rfl fun hS => qz <| wp_ret ?_
    exact zm (rs := [2, 3]) hS rfl rfl (hret LG LH LF LN (0 : Int) _ (qU hM) LV (hS.st.pick [0] (by kernel_rfl)))
theorem yl {H : xU} {F : List qm} {w : World} {R : Ending → World → Prop} {kr : ((List Int) × Bool) → Prop} {kp : Value → Prop} (hG : Gl H) (K : Nat) (LB : List Int) (LC : Option Addr) (LD : Nat) (LR : jn H [] F (ci .i64) LC LB) (LQ : LB.length ≤ LD)
    (hS : St w H [] F) (hm : (xE.m K LB).wp kr kp)
    (hret : ∀ (LI : Option Addr) (LJ : Nat) (LE : (List Int)) (LL : qm) (LN : Bool) (w : World), kr (LE, LN) → (xh 3 (ci .i64) 1 LI LE LJ LL) → St w H [LL] F → R (.returned (.tuple ⟨[.agg ⟨[.slice LC LB.length LD, .slice LI LE.length LJ]⟩, .bool LN]⟩)) w) :
    Calls Tryd.prog 63 ⟨[.slice LC LB.length LD]⟩ w R := by
 refine enter Tryd.func63 rfl Tryd.ntmps63 rfl hS fun a w hS => ?_
 have hM := hm; clear hm
 rw [xE.m] at hM
 refine qk <| QJ ([.slice none 0 0, .slice none 0 0]) hS Tryd.zeroValue121 rfl rfl fun w LZ LS LO hS => ?_
 obtain ⟨LT, LX, hS⟩ := hS.nilV 3 (ci .i64) 1
 obtain ⟨LU, LY, hS⟩ := hS.nilV 3 (ci .i64) 1
 refine sA hS rfl fun hS => qz <| qk <| sM hS rfl fun hS => qK hS rfl Tryd.call27 (jc hG K LB LC LD (LR.app _) LQ (hS.st.part 0 [0, 1, 2] (by kernel_rfl)) (qx hM) (fun LF LG LH LK LW w hM LV hst => qJ hS.ev hst.appF rfl fun hS => ?_))
 replace hS : Ss _ _ _ H [LK, LU, LT, LS] F _ _ := hS
 refine sM hS rfl fun hS => sO hS (ex rfl rfl) rfl fun hS => sO hS (ex rfl rfl) rfl fun hS => sA hS rfl fun hS => sA hS rfl fun hS => qz <| qk <| sM hS rfl fun hS => sM hS rfl fun hS => sO hS (Zq ([.slice LC LB.length LD, .slice LF LH.length LG]) [(0, 1), (1, 1)] Tryd.zeroValue121 Tryd.runUnderlying121 (by intro w; simp [Tryd.sizeOf45]) rfl rfl) rfl fun hS => sM hS rfl fun hS => sB hS rfl fun hS => u5 3 ([.slice LC LB.length LD, .slice LF LH.length LG]) ([.slice LC LB.length LD, .slice LF LH.length LG]) hS rfl rfl LO rfl rfl Tryd.sizeOf121 (by simp [Value.oneCell']) (Nat.le_of_ble_eq_true rfl) rfl fun w L0 LP hS => zH (v := Value.bool) (x0 := (LW == (0 : Int))) hS (xv rfl) rfl fun LM a w hz hS => ?_
 have hM := qB hz hM; clear hz
 refine qz <| wp_ret ?_
 exact yB (vs := [.agg ⟨[.slice LC LB.length LD, .slice LF LH.length LG]⟩, .bool LM]) hS rfl (by exact ⟨Jp 3 ([.slice LC LB.length LD, .slice LF LH.length LG]) rfl LP rfl rfl rfl Tryd.isAgg121 Tryd.sizeOf121, Z6 rfl, trivial⟩) (hret LF LG LH LK LM _ (qU hM) LV (hS.st.pick [0] (by kernel_rfl)))
theorem jp {H : xU} {F : List qm} {w : World} {R : Ending → World → Prop} {kr : (Int × Int × Int) → Prop} {kp : Value → Prop} (hG : Gl H) (K : Nat) (LD : List Int) (LC : List Int) (LF : qj) (LI : Option Addr) (LL : Nat) (LO : Option Addr) (LR : Nat) (LK : Nat) (L3 : qm) (LN : jn H [] F (ci .i64) LI LD) (ME : LD.length ≤ LL) (LW : jn H [] F (ci .i64) LO LC) (MF : LC.length ≤ LR) (L5 : xZ L3 LK ([yb LF.S_, .int .i64 LF.At_]) 82)
    (hS : St w H [L3] F) (hm : (qL.m K LD LC LF).wp kr kp)
    (hret : ∀ (Me : Int) (Mf : Int) (L0 : Int) (Mb : qm) (w : World), kr (Me, Mf, L0) → (xZ Mb LK ([yb LF.S_, .int .i64 L0]) 82) → St w H [Mb] F → R (.returned (.tuple ⟨[.int .i64 Me, .int .i64 Mf]⟩)) w) :
    Calls Tryd.prog 88 ⟨[.slice LI LD.length LL, .slice LO LC.length LR, qO LK 0]⟩ w R := by
 refine enter Tryd.func88 rfl Tryd.ntmps88 rfl hS fun a w hS => ?_
 have hM := hm; clear hm
 rw [qL.m] at hM
 refine qk <| sA hS rfl fun hS => sA hS rfl fun hS => qz <| qk <| sM hS rfl fun hS => sO hS (yu rfl) rfl fun hS => sO hS (xr rfl Tryd.runUnderlying82 rfl Tryd.sizeOf3 rfl) rfl fun hS => sO hS (xW 0 rfl L5 rfl rfl Tryd.isAgg3) rfl fun hS => sA hS rfl fun hS => qz <| qk <| sA hS rfl fun hS => qz <| zx (fun a w => ∃ (LT : Int) (L4 : qm), Ss 100 [] [(2, qO LK 0), (8, .int .i64 LF.At_)] H [L4] F a w ∧ (xZ L4 LK ([yb LF.S_, .int .i64 LT]) 82) ∧ (qL.j4 K LF LT).wp kr kp) (fun MJ Mm => ?_) ?_
 ·refine wp_seq ?_
  refine zI <| sA hS rfl fun hS => qz <| xJ <| zv (fun L1 a w => ∃ (LJ : Int) (LS : qm) (LG : Int) (LB : Int), Ss 100 [] [(0, .slice LI LD.length LL), (1, .slice LO LC.length LR), (2, qO LK 0), (8, .int .i64 LF.At_), (9, .int .i64 LG), (10, .int .i64 LB)] H [LS] F a w ∧ (xZ LS LK ([yb LF.S_, .int .i64 LJ]) 82) ∧ (qL.l1 K LD LC LF L1 LJ LG LB).wp kr kp) K ?_ ?_ ?_
  ·exact ⟨LF.At_, L3, (0 : Int), (0 : Int), hS.to [0] (by kernel_rfl) ⟨rfl, rfl, rfl, rfl, rfl, rfl, trivial⟩, L5, hM⟩
  ·intro a w hI; obtain ⟨_, _, _, _, _, _, hM⟩ := hI; exact zr hM
  ·intro L1 a w hI MI Ml
   obtain ⟨LJ, LS, LG, LB, hS, LU, hM⟩ := hI
   rw [qL.l1] at hM
   refine wp_seq <| qk <| sM hS rfl fun hS => sB hS rfl fun hS => qz <| qy hS rfl hM (fun Mn hM => ?_) (fun Mn hM => ?_)
   ·refine wp_skip ?_
    refine qc <| wp_seq <| xJ <| qk <| sA hS rfl fun hS => qz <| zx (fun a w => ∃ (LQ : Bool), Ss 100 [] [(0, .slice LI LD.length LL), (1, .slice LO LC.length LR), (2, qO LK 0), (8, .int .i64 LF.At_), (9, .int .i64 LG), (10, .int .i64 LB), (11, .bool LQ)] H [LS] F a w ∧ (qL.j3 K (qL.l1 K LD LC LF L1) LF LJ LG LB LQ).wp kr kp) (fun MH Mk => ?_) ?_
    ·refine wp_seq ?_
     refine zI <| sA hS rfl fun hS => qz <| xJ <| zv (fun Md a w => ∃ (LH : Bool) (LE : Int), Ss 100 [] [(0, .slice LI LD.length LL), (1, .slice LO LC.length LR), (2, qO LK 0), (8, .int .i64 LF.At_), (9, .int .i64 LG), (10, .int .i64 LB), (11, .bool LH), (12, .int .i64 LE)] H [LS] F a w ∧ (qL.l2 K (qL.l1 K LD LC LF L1) LD LC LF LJ LG LB Md LH LE).wp kr kp) K ?_ ?_ ?_
     ·exact ⟨false, (0 : Int), hS.to [0] (by kernel_rfl) ⟨rfl, rfl, rfl, rfl, rfl, rfl, rfl, rfl, trivial⟩, hM⟩
     ·intro a w hI; obtain ⟨_, _, _, hM⟩ := hI; exact zr hM
     ·intro Md a w hI MG LX
      obtain ⟨LH, LE, hS, hM⟩ := hI
      rw [qL.l2] at hM
      refine wp_seq <| qk <| sM hS rfl fun hS => sM hS rfl fun hS => sO hS (ya rfl Tryd.runUnderlying45) rfl fun hS => sB hS rfl fun hS => qz <| qy hS rfl hM (fun Mp hM => ?_) (fun Mp hM => ?_)
      ·refine wp_skip ?_
       refine qc <| wp_seq <| xJ <| wp_seq <| qk <| sM hS rfl fun hS => sM hS rfl fun hS => ?_
       obtain ⟨LM, hM⟩ := qE hM
       refine sO hS (x6 rfl rfl Tryd.runUnderlying45 Tryd.sizeOf3 LN.wk (fun _ => rfl) rfl LM) rfl fun hS => sO hS (x9 rfl LN.wk (fun _ => rfl) LM rfl Tryd.isAgg3) rfl fun hS => sM hS rfl fun hS => sB hS rfl fun hS => sM hS rfl fun hS => yw 2 true 35 (b := ((rd LD LE) == LB)) (r := (decide (LB > (0 : Int)))) hS rfl rfl rfl rfl rfl rfl rfl (fun hb a w hS K hK => ?_) rfl fun a w hS => ?_
       ·refine zK hS rfl rfl rfl hb (mv rfl) rfl fun a w hS => ?_
        refine zK hS rfl rfl rfl hb (yZ rfl rfl rfl) rfl fun a w hS => ?_
        exact zd (hK _ _ (hS.up 2 rfl rfl))
       refine sM hS rfl fun hS => ?_
       obtain ⟨Mt, hM⟩ := qE hM
       refine yw 6 true 39 (b := (((rd LD LE) == LB) && (decide (LB > (0 : Int))))) (r := ((rd LC LE) == LG)) hS rfl rfl rfl rfl rfl rfl rfl (fun hb a w hS K hK => ?_) rfl fun a w hS => ?_
       ·refine zK hS rfl rfl rfl hb (mv rfl) rfl fun a w hS => ?_
        refine zK hS rfl rfl rfl hb (mv rfl) rfl fun a w hS => ?_
        have L6 := Vt Mt hb
        refine zK hS rfl rfl rfl hb (x6 rfl rfl Tryd.runUnderlying45 Tryd.sizeOf3 LW.wk (fun _ => rfl) rfl L6) rfl fun a w hS => zK hS rfl rfl rfl hb (x9 rfl LW.wk (fun _ => rfl) L6 rfl Tryd.isAgg3) rfl fun a w hS => zK hS rfl rfl rfl hb (mv rfl) rfl fun a w hS => zK hS rfl rfl rfl hb (yZ rfl rfl rfl) rfl fun a w hS => ?_
        exact zd (hK _ _ (hS.up 6 rfl rfl))
       refine qz <| qy hS rfl hM (fun Mq hM => ?_) (fun Mq hM => ?_)
       ·refine wp_seq ?_
        refine zI <| sM hS rfl fun hS => sA hS rfl fun hS => sA hS rfl fun hS => qz <| wp_ret <| qA (z3 (qA (qA (z3 (qA (z3 (qA (qA (z3 (qA ?_))))))))))
        exact zm (rs := [6, 7]) hS rfl rfl (hret LE (0 : Int) LJ LS _ (qU hM) LU (hS.st.pick [0] (by kernel_rfl)))
       ·refine wp_skip ?_
        refine qc <| UM (b := LH) hM (fun LV hM => ?_) (fun LV hM => ?_)
        ·refine zh (vals := [some (.bool true), some (.bool true), some (undef), some (undef), some (undef), some (undef), some (undef), some (undef), some (undef), some (undef), some (undef), some (undef), some (undef), some (undef), some (undef), some (undef), some (undef), some (undef), some (undef), some (undef), some (undef), some (undef), some (undef), some (undef), some (.bool true), some (.bool true)]) hS xH rfl ?_
         intro l w ho hcl hA hst
         refine yo hA hst ho hcl xI [0, 1, 2, 3, 4, 5, 6, 7, 8, 9, 10, 11, 12, 13, 14, 15, 16, 17, 18, 19, 20, 21, 22, 23, 24, 25] rfl rfl rfl (by exact ⟨nQ rfl (by exact qY (mv rfl) (congrArg Value.bool LV)), nM rfl, nS rfl rfl rfl rfl rfl rfl rfl rfl rfl, nS rfl rfl rfl rfl rfl rfl rfl rfl rfl, nS rfl rfl rfl rfl rfl rfl rfl rfl rfl, nS rfl rfl rfl rfl rfl rfl rfl rfl rfl, nS rfl rfl rfl rfl rfl rfl rfl rfl rfl, nS rfl rfl rfl rfl rfl rfl rfl rfl rfl, nS rfl rfl rfl rfl rfl rfl rfl rfl rfl, nS rfl rfl rfl rfl rfl rfl rfl rfl rfl, nS rfl rfl rfl rfl rfl rfl rfl rfl rfl, nS rfl rfl rfl rfl rfl rfl rfl rfl rfl, nS rfl rfl rfl rfl rfl rfl rfl rfl rfl, nS rfl rfl rfl rfl rfl rfl rfl rfl rfl, nS rfl rfl rfl rfl rfl rfl rfl rfl rfl, nS rfl rfl rfl rfl rfl rfl rfl rfl rfl, nS rfl rfl rfl rfl rfl rfl rfl rfl rfl, nS rfl rfl rfl rfl rfl rfl rfl rfl rfl, nS rfl rfl rfl rfl rfl rfl rfl rfl rfl, nS rfl rfl rfl rfl rfl rfl rfl rfl rfl, nS rfl rfl rfl rfl rfl rfl rfl rfl rfl, nS rfl rfl rfl rfl rfl rfl rfl rfl rfl, nS rfl rfl rfl rfl rfl rfl rfl rfl rfl, nS rfl rfl rfl rfl rfl rfl rfl rfl rfl, nQ rfl (by exact qY (pk rfl rfl rfl) rfl), nA rfl, trivial⟩) fun a w hS => ?_
         replace hS := hS.env2 (e' := [(0, .slice LI LD.length LL), (1, .slice LO LC.length LR), (2, qO LK 0), (8, .int .i64 LF.At_), (9, .int .i64 LG), (10, .int .i64 LB), (11, .bool true), (12, .int .i64 LE)]) ⟨rfl, rfl, rfl, rfl, rfl, rfl, rfl, rfl, trivial⟩
         refine zz (qc ?_)
         refine zI <| sM hS rfl fun hS => sB hS rfl fun hS => zH (v := Value.int .i64) (x0 := (qi (LE + (1 : Int)))) hS (xv rfl) rfl fun My a w hz hS => ?_
         have hM := qB hz hM; clear hz
         refine zd <| qc ?_
         exact LX _ _ ⟨true, My, hS.to [0] (by kernel_rfl) ⟨rfl, rfl, rfl, rfl, rfl, rfl, rfl, rfl, trivial⟩, hM⟩
        ·refine UM (b := (decide ((rd LD LE) > LB))) hM (fun LY hM => ?_) (fun LY hM => ?_)
         ·obtain ⟨L7, hM⟩ := qE hM
          obtain ⟨Mu, hM⟩ := qE hM
          obtain ⟨LP, L8⟩ : ∃ x, x = ((xF .i64 (rd LC LE) (wr .u64 (qi ((rd LD LE) - LB)))) == LG) := ⟨_, rfl⟩
          replace hM := qB L8 hM
          refine zh (vals := [some (.bool false), some (.bool false), some (.slice LI LD.length LL), some (.int .i64 LE), some (xz LI (Int.toNat LE * 1)), some (.int .i64 (rd LD LE)), some (.int .i64 LB), some (.bool true), some (.bool true), some (.slice LO LC.length LR), some (.int .i64 LE), some (xz LO (Int.toNat LE * 1)), some (.int .i64 (rd LC LE)), some (.slice LI LD.length LL), some (.int .i64 LE), some (xz LI (Int.toNat LE * 1)), some (.int .i64 (rd LD LE)), some (.int .i64 LB), some (.int .i64 (qi ((rd LD LE) - LB))), some (.int .u64 (wr .u64 (qi ((rd LD LE) - LB)))), some (.int .i64 (xF .i64 (rd LC LE) (wr .u64 (qi ((rd LD LE) - LB))))), some (.int .i64 LG), some (.bool ((xF .i64 (rd LC LE) (wr .u64 (qi ((rd LD LE) - LB)))) == LG)), some (.bool ((xF .i64 (rd LC LE) (wr .u64 (qi ((rd LD LE) - LB)))) == LG)), some (.bool ((xF .i64 (rd LC LE) (wr .u64 (qi ((rd LD LE) - LB)))) == LG)), some (.bool LP)]) hS xH rfl ?_
          intro l w ho hcl hA hst
          refine yo hA hst ho hcl xI [0, 1, 2, 3, 4, 5, 6, 7, 8, 9, 10, 11, 12, 13, 14, 15, 16, 17, 18, 19, 20, 21, 22, 23, 24, 25] rfl rfl rfl (by exact ⟨nQ rfl (by exact qY (mv rfl) (congrArg Value.bool LV)), nM rfl, nW rfl rfl rfl rfl rfl rfl rfl rfl (by exact qY (mv rfl) rfl), nW rfl rfl rfl rfl rfl rfl rfl rfl (by exact qY (mv rfl) rfl), nW rfl rfl rfl rfl rfl rfl rfl rfl (by exact qY (x6 rfl rfl Tryd.runUnderlying45 Tryd.sizeOf3 LN.wk (fun _ => rfl) rfl LM) rfl), nW rfl rfl rfl rfl rfl rfl rfl rfl (by exact qY (x9 rfl LN.wk (fun _ => rfl) LM rfl Tryd.isAgg3) rfl), nW rfl rfl rfl rfl rfl rfl rfl rfl (by exact qY (mv rfl) rfl), nW rfl rfl rfl rfl rfl rfl rfl rfl (by exact qY (yZ rfl rfl rfl) (congrArg Value.bool LY)), nW rfl rfl rfl rfl rfl rfl rfl rfl (by exact qY (mv rfl) rfl), nW rfl rfl rfl rfl rfl rfl rfl rfl (by exact qY (mv rfl) rfl), nW rfl rfl rfl rfl rfl rfl rfl rfl (by exact qY (mv rfl) rfl), nW rfl rfl rfl rfl rfl rfl rfl rfl (by exact qY (x6 rfl rfl Tryd.runUnderlying45 Tryd.sizeOf3 LW.wk (fun _ => rfl) rfl L7) rfl), nW rfl rfl rfl rfl rfl rfl rfl rfl (by exact qY (x9 rfl LW.wk (fun _ => rfl) L7 rfl Tryd.isAgg3) rfl), nW rfl rfl rfl rfl rfl rfl rfl rfl (by exact qY (mv rfl) rfl), nW rfl rfl rfl rfl rfl rfl rfl rfl (by exact qY (mv rfl) rfl), nW rfl rfl rfl rfl rfl rfl rfl rfl (by exact qY (x6 rfl rfl Tryd.runUnderlying45 Tryd.sizeOf3 LN.wk (fun _ => rfl) rfl LM) rfl), nW rfl rfl rfl rfl rfl rfl rfl rfl (by exact qY (x9 rfl LN.wk (fun _ => rfl) LM rfl Tryd.isAgg3) rfl), nW rfl rfl rfl rfl rfl rfl rfl rfl (by exact qY (mv rfl) rfl), nW rfl rfl rfl rfl rfl rfl rfl rfl (by exact qY (yZ rfl rfl rfl) rfl), nW rfl rfl rfl rfl rfl rfl rfl rfl (by exact qY (vH rfl Tryd.runUnderlying3 Tryd.runUnderlying39) rfl), nW rfl rfl rfl rfl rfl rfl rfl rfl (by exact qY (shr rfl rfl Mu) rfl), nW rfl rfl rfl rfl rfl rfl rfl rfl (by exact qY (mv rfl) rfl), nW rfl rfl rfl rfl rfl rfl rfl rfl (by exact qY (yZ rfl rfl rfl) rfl), nW rfl rfl rfl rfl rfl rfl rfl rfl (by exact qY (pk rfl rfl rfl) rfl), nQ rfl (by exact qY (pk rfl rfl rfl) rfl), nQ rfl (by exact qY (xv rfl) (congrArg (Value.bool) L8.symm)), trivial⟩) fun a w hS => ?_
          replace hS := hS.env2 (e' := [(0, .slice LI LD.length LL), (1, .slice LO LC.length LR), (2, qO LK 0), (8, .int .i64 LF.At_), (9, .int .i64 LG), (10, .int .i64 LB), (11, .bool LP), (12, .int .i64 LE)]) ⟨rfl, rfl, rfl, rfl, rfl, rfl, rfl, rfl, trivial⟩
          refine zz (qc ?_)
          refine zI <| sM hS rfl fun hS => sB hS rfl fun hS => zH (v := Value.int .i64) (x0 := (qi (LE + (1 : Int)))) hS (xv rfl) rfl fun Mz a w hz hS => ?_
          have hM := qB hz hM; clear hz
          refine zd <| qc ?_
          exact LX _ _ ⟨LP, Mz, hS.to [0] (by kernel_rfl) ⟨rfl, rfl, rfl, rfl, rfl, rfl, rfl, rfl, trivial⟩, hM⟩
         ·refine zh (vals := [some (.bool false), some (.bool false), some (.slice LI LD.length LL), some (.int .i64 LE), some (xz LI (Int.toNat LE * 1)), some (.int .i64 (rd LD LE)), some (.int .i64 LB), some (.bool false), some (.bool false), some (undef), some (undef), some (undef), some (undef), some (undef), some (undef), some (undef), some (undef), some (undef), some (undef), some (undef), some (undef), some (undef), some (undef), some (.bool false), some (.bool false), some (.bool false)]) hS xH rfl ?_
          intro l w ho hcl hA hst
          refine yo hA hst ho hcl xI [0, 1, 2, 3, 4, 5, 6, 7, 8, 9, 10, 11, 12, 13, 14, 15, 16, 17, 18, 19, 20, 21, 22, 23, 24, 25] rfl rfl rfl (by exact ⟨nQ rfl (by exact qY (mv rfl) (congrArg Value.bool LV)), nM rfl, nW rfl rfl rfl rfl rfl rfl rfl rfl (by exact qY (mv rfl) rfl), nW rfl rfl rfl rfl rfl rfl rfl rfl (by exact qY (mv rfl) rfl), nW rfl rfl rfl rfl rfl rfl rfl rfl (by exact qY (x6 rfl rfl Tryd.runUnderlying45 Tryd.sizeOf3 LN.wk (fun _ => rfl) rfl LM) rfl), nW rfl rfl rfl rfl rfl rfl rfl rfl (by exact qY (x9 rfl LN.wk (fun _ => rfl) LM rfl Tryd.isAgg3) rfl), nW rfl rfl rfl rfl rfl rfl rfl rfl (by exact qY (mv rfl) rfl), nW rfl rfl rfl rfl rfl rfl rfl rfl (by exact qY (yZ rfl rfl rfl) (congrArg Value.bool LY)), nW rfl rfl rfl rfl rfl rfl rfl rfl (by exact qY (mv rfl) rfl), nS rfl rfl rfl rfl rfl rfl rfl rfl rfl, nS rfl rfl rfl rfl rfl rfl rfl rfl rfl, nS rfl rfl rfl rfl rfl rfl rfl rfl rfl, nS rfl rfl rfl rfl rfl rfl rfl rfl rfl, nS rfl rfl rfl rfl rfl rfl rfl rfl rfl, nS rfl rfl rfl rfl rfl rfl rfl rfl rfl, nS rfl rfl rfl rfl rfl rfl rfl rfl rfl, nS rfl rfl rfl rfl rfl rfl rfl rfl rfl, nS rfl rfl rfl rfl rfl rfl rfl rfl rfl, nS rfl rfl rfl rfl rfl rfl rfl rfl rfl, nS rfl rfl rfl rfl rfl rfl rfl rfl rfl, nS rfl rfl rfl rfl rfl rfl rfl rfl rfl, nS rfl rfl rfl rfl rfl rfl rfl rfl rfl, nS rfl rfl rfl rfl rfl rfl rfl rfl rfl, nW rfl rfl rfl rfl rfl rfl rfl rfl (by exact qY (pk rfl rfl rfl) rfl), nQ rfl (by exact qY (pk rfl rfl rfl) rfl), nA rfl, trivial⟩) fun a w hS => ?_
          replace hS := hS.env2 (e' := [(0, .slice LI LD.length LL), (1, .slice LO LC.length LR), (2, qO LK 0), (8, .int .i64 LF.At_), (9, .int .i64 LG), (10, .int .i64 LB), (11, .bool false), (12, .int .i64 LE)]) ⟨rfl, rfl, rfl, rfl, rfl, rfl, rfl, rfl, trivial⟩
          refine zz (qc ?_)
          refine zI <| sM hS rfl fun hS => sB hS rfl fun hS => zH (v := Value.int .i64) (x0 := (qi (LE + (1 : Int)))) hS (xv rfl) rfl fun MA a w hz hS => ?_
          have hM := qB hz hM; clear hz
          refine zd <| qc ?_
          exact LX _ _ ⟨false, MA, hS.to [0] (by kernel_rfl) ⟨rfl, rfl, rfl, rfl, rfl, rfl, rfl, rfl, trivial⟩, hM⟩
      ·refine wp_exit ?_
       refine qC (qC (q9 (qc ?_)))
       exact Mk _ _ ⟨LH, hS.to [0] (by kernel_rfl) ⟨rfl, rfl, rfl, rfl, rfl, rfl, rfl, trivial⟩, hM⟩
    ·intro a w hI
     obtain ⟨LQ, hS, hM⟩ := hI
     rw [qL.j3] at hM
     refine wp_seq <| qk <| sM hS rfl fun hS => sO hS (un rfl rfl) rfl fun hS => qz <| qy hS rfl hM (fun Mr hM => ?_) (fun Mr hM => ?_)
     ·refine wp_seq ?_
      refine zI <| sM hS rfl fun hS => sM hS rfl fun hS => sO hS (yu rfl) rfl fun hS => sO hS (xr rfl Tryd.runUnderlying82 rfl Tryd.sizeOf3 rfl) rfl fun hS => U8 0 ([yb LF.S_, .int .i64 LF.At_]) hS rfl rfl LU rfl rfl rfl rfl Tryd.sizeOf3 fun w Mv Mg hS => qz <| qk <| sA hS rfl fun hS => sA hS rfl fun hS => qz <| wp_ret <| qA (z3 (qA (qA (z3 (qA ?_)))))
      exact zm (rs := [6, 7]) hS rfl rfl (hret (0 : Int) (3 : Int) LF.At_ Mv _ (qU hM) Mg (hS.st.pick [0] (by kernel_rfl)))
     ·refine wp_skip ?_
      refine qc <| qk <| sM hS rfl fun hS => qK hS rfl Tryd.call86 (jb hG K (qj.mk LF.S_ LJ) (1 : Int) LK LS LU (hS.st.part 1 [0] (by kernel_rfl)) (qx hM) (fun MC MD L9 Ma w hM Mc hst => qJ hS.ev hst.appF rfl fun hS => ?_))
      replace hS : Ss _ _ _ H [Ma] F _ _ := hS
      refine sM hS rfl fun hS => sO hS (ex rfl rfl) rfl fun hS => sO hS (ex rfl rfl) rfl fun hS => sA hS rfl fun hS => sA hS rfl fun hS => qz <| wp_seq <| qk <| sM hS rfl fun hS => sB hS rfl fun hS => qz <| qy hS rfl hM (fun Ms hM => ?_) (fun Ms hM => ?_)
      ·refine wp_seq ?_
       refine zI <| sM hS rfl fun hS => sM hS rfl fun hS => sO hS (yu rfl) rfl fun hS => sO hS (xr rfl Tryd.runUnderlying82 rfl Tryd.sizeOf3 rfl) rfl fun hS => U8 0 ([yb LF.S_, .int .i64 LF.At_]) hS rfl rfl Mc rfl rfl rfl rfl Tryd.sizeOf3 fun w Mw Mh hS => qz <| qk <| sM hS rfl fun hS => sA hS rfl fun hS => sA hS rfl fun hS => qz <| wp_ret <| qA (z3 (qA (qA (z3 (qA ?_)))))
       exact zm (rs := [6, 7]) hS rfl rfl (hret (0 : Int) MD LF.At_ Mw _ (qU hM) Mh (hS.st.pick [0] (by kernel_rfl)))
      ·refine wp_skip ?_
       refine qc <| zI <| sM hS rfl fun hS => sB hS rfl fun hS => sM hS rfl fun hS => sO hS (vH rfl Tryd.runUnderlying53 Tryd.runUnderlying3) rfl fun hS => sB hS rfl fun hS => zH (v := Value.int .i64) (x0 := (qi ((qi ((2 : Int) * LG)) + (wr .i64 MC)))) hS (xv rfl) rfl fun MB a w hz hS => ?_
       have hM := qB hz hM; clear hz
       refine zd <| zz (qc ?_)
       refine zI <| sM hS rfl fun hS => sB hS rfl fun hS => zH (v := Value.int .i64) (x0 := (qi (LB + (1 : Int)))) hS (xv rfl) rfl fun LZ a w hz hS => ?_
       have hM := qB hz hM; clear hz
       refine zd <| qc ?_
       exact Ml _ _ ⟨L9, Ma, MB, LZ, hS.to [0] (by kernel_rfl) ⟨rfl, rfl, rfl, rfl, rfl, rfl, trivial⟩, Mc, hM⟩
   ·refine wp_exit ?_
    refine qC (qC (q9 (qc ?_)))
    exact Mm _ _ ⟨LJ, LS, hS.to [0] (by kernel_rfl) ⟨rfl, rfl, trivial⟩, LU, hM⟩
 ·intro a w hI
  obtain ⟨LT, L4, hS, Mi, hM⟩ := hI
  rw [qL.j4] at hM
  refine qk <| sM hS rfl fun hS => sM hS rfl fun hS => sO hS (yu rfl) rfl fun hS => sO hS (xr rfl Tryd.runUnderlying82 rfl Tryd.sizeOf3 rfl) rfl fun hS => U8 0 ([yb LF.S_, .int .i64 LF.At_]) hS rfl rfl Mi rfl rfl rfl rfl Tryd.sizeOf3 fun w Mx Mj hS => qz <| qk <| sA hS rfl fun hS => sA hS rfl fun hS => qz <| wp_ret ?_
  exact zm (rs := [6, 7]) hS rfl rfl (hret (0 : Int) (3 : Int) LF.At_ Mx _ (qU hM) Mj (hS.st.pick [0] (by kernel_rfl)))
theorem yW {H : xU} {F : List qm} {w : World} {R : Ending → World → Prop} {kr : (Int × Int) → Prop} {kp : Value → Prop} (hG : Gl H) (K : Nat) (LB : Int)
    (hS : St w H [] F) (hm : (xS.m K LB).wp kr kp)
    (hret : ∀ (LE : Int) (LF : Int) (w : World), kr (LE, LF) → St w H [] F → R (.returned (.tuple ⟨[.int .i64 LE, .int .i64 LF]⟩)) w) :
    Calls Tryd.prog 32 ⟨[.int .i64 LB]⟩ w R := by
 refine enter Tryd.func32 rfl Tryd.ntmps32 rfl hS fun a w hS => ?_
 have hM := hm; clear hm
 rw [xS.m] at hM
 refine qk <| sA hS rfl fun hS => sA hS rfl fun hS => qz <| wp_seq <| qk <| sM hS rfl fun hS => sB hS rfl fun hS => qz <| qy hS rfl hM (fun LG hM => ?_) (fun LG hM => ?_)
 ·refine wp_seq ?_
  refine zI <| sA hS rfl fun hS => sA hS rfl fun hS => qz <| wp_ret <| qA ?_
  exact zm (rs := [2, 3]) hS rfl rfl (hret (258 : Int) (0 : Int) _ (qU hM) (hS.st.pick [] (by kernel_rfl)))
 ·refine wp_skip ?_
  refine qc <| qk <| sM hS rfl fun hS => sB hS rfl fun hS => zH (v := Value.int .i64) (x0 := (qi (LB - (257 : Int)))) hS (xv rfl) rfl fun LD a w hz hS => ?_
  have hM := qB hz hM; clear hz
  refine qz <| wp_seq <| qk <| sM hS rfl fun hS => sB hS rfl fun hS => qz <| qy hS rfl hM (fun LH hM => ?_) (fun LH hM => ?_)
  ·refine wp_seq ?_
   refine zI <| sM hS rfl fun hS => sB hS rfl fun hS => zH (v := Value.int .i64) (x0 := (qi ((3 : Int) + LD))) hS (xv rfl) rfl fun LJ a w hz hS => ?_
   have hM := qB hz hM; clear hz
   refine sA hS rfl fun hS => qz <| wp_ret <| qA ?_
   exact zm (rs := [2, 3]) hS rfl rfl (hret LJ (0 : Int) _ (qU hM) (hS.st.pick [] (by kernel_rfl)))
  ·refine wp_skip ?_
   refine qc <| qk <| sM hS rfl fun hS => sO hS (quo rfl rfl rfl) rfl fun hS => sB hS rfl fun hS => zH (v := Value.int .i64) (x0 := (qi ((xA .i64 LD (4 : Int)) - (1 : Int)))) hS (xv rfl) rfl fun LC a w hz hS => ?_
   have hM := qB hz hM; clear hz
   refine qz <| qk <| sM hS rfl fun hS => sO hS (rem rfl rfl rfl) rfl fun hS => sB hS rfl fun hS => sM hS rfl fun hS => sO hS (vH rfl Tryd.runUnderlying3 Tryd.runUnderlying39) rfl fun hS => ?_
   obtain ⟨LI, hM⟩ := qE hM
   refine sO hS (shl rfl rfl LI) rfl fun hS => sB hS rfl fun hS => sM hS rfl fun hS => zH (v := Value.int .i64) (x0 := (qi ((3 : Int) + (xl .i64 (qi ((4 : Int) + (yk LD (4 : Int)))) (wr .u64 LC))))) hS (xv rfl) rfl fun LK a w hz hS => ?_
   have hM := qB hz hM; clear hz
   refine sA hS rfl fun hS => qz <| wp_ret ?_
   exact zm (rs := [2, 3]) hS rfl rfl (hret LK LC _ (qU hM) (hS.st.pick [] (by kernel_rfl)))
theorem yI {H : xU} {F : List qm} {w : World} {R : Ending → World → Prop} {kr : (Int × Int) → Prop} {kp : Value → Prop} (hG : Gl H) (K : Nat) (LB : Int)
    (hS : St w H [] F) (hm : (xK.m K LB).wp kr kp)
    (hret : ∀ (LD : Int) (LE : Int) (w : World), kr (LD, LE) → St w H [] F → R (.returned (.tuple ⟨[.int .i64 LD, .int .i64 LE]⟩)) w) :
    Calls Tryd.prog 33 ⟨[.int .i64 LB]⟩ w R := by
 refine enter Tryd.func33 rfl Tryd.ntmps33 rfl hS fun a w hS => ?_
 have hM := hm; clear hm
 rw [xK.m] at hM
 refine qk <| sA hS rfl fun hS => sA hS rfl fun hS => qz <| wp_seq <| qk <| sM hS rfl fun hS => sB hS rfl fun hS => qz <| qy hS rfl hM (fun LF hM => ?_) (fun LF hM => ?_)
 ·refine wp_seq ?_
  refine zI <| sM hS rfl fun hS => sB hS rfl fun hS => zH (v := Value.int .i64) (x0 := (qi ((1 : Int) + LB))) hS (xv rfl) rfl fun LH a w hz hS => ?_
  have hM := qB hz hM; clear hz
  refine sA hS rfl fun hS => qz <| wp_ret <| qA ?_
  exact zm (rs := [2, 3]) hS rfl rfl (hret LH (0 : Int) _ (qU hM) (hS.st.pick [] (by kernel_rfl)))
 ·refine wp_skip ?_
  refine qc <| qk <| sM hS rfl fun hS => sO hS (quo rfl rfl rfl) rfl fun hS => sB hS rfl fun hS => zH (v := Value.int .i64) (x0 := (qi ((xA .i64 LB (2 : Int)) - (1 : Int)))) hS (xv rfl) rfl fun LC a w hz hS => ?_
  have hM := qB hz hM; clear hz
  refine qz <| qk <| sM hS rfl fun hS => sO hS (rem rfl rfl rfl) rfl fun hS => sB hS rfl fun hS => sM hS rfl fun hS => sO hS (vH rfl Tryd.runUnderlying3 Tryd.runUnderlying39) rfl fun hS => ?_
  obtain ⟨LG, hM⟩ := qE hM
  refine sO hS (shl rfl rfl LG) rfl fun hS => sB hS rfl fun hS => sM hS rfl fun hS => zH (v := Value.int .i64) (x0 := (qi ((1 : Int) + (xl .i64 (qi ((2 : Int) + (yk LB (2 : Int)))) (wr .u64 LC))))) hS (xv rfl) rfl fun LI a w hz hS => ?_
  have hM := qB hz hM; clear hz
  refine sA hS rfl fun hS => qz <| wp_ret ?_
  exact zm (rs := [2, 3]) hS rfl rfl (hret LI LC _ (qU hM) (hS.st.pick [] (by kernel_rfl)))
theorem vY {H : xU} {F : List qm} {w : World} {R : Ending → World → Prop} {kr : (Int × Int × (List Int)) → Prop} {kp : Value → Prop} (hG : Gl H) (K : Nat) (LE : qr) (LP : Int) (LD : zp) (LC : Nat) (LJ : qm) (LO : Nat) (L7 : qm) (LM : Option Addr) (LN : Nat) (LK : qm) (LT : Option Addr) (LV : Nat) (LU : Option Addr) (LW : Nat) (LH : xZ LJ LC ([qO LO 0, .slice LM LE.out_.length LN, .int .i64 LE.limit_]) 84) (Ml : xZ L7 LO ([yb LE.r_.S_, .int .i64 LE.r_.At_]) 82) (LL : xh 5 (ci .u8) 1 LM LE.out_ LN LK) (MM : jn H [] F (ci .i64) LT LD.l_) (MJ : LD.l_.length ≤ LV) (MN : jn H [] F (ci .i64) LU LD.codes_) (MK : LD.codes_.length ≤ LW)
    (hS : St w H [LJ, L7, LK] F) (hm : (zM.m K LE LP LD).wp kr kp)
    (hret : ∀ (Mw : Int) (Md : Int) (Mr : qm) (Mp : Option Addr) (Mq : Nat) (L4 : (List Int)) (Ms : qm) (Mt : qm) (w : World), kr (Mw, Md, L4) → (xZ Mr LO ([yb LE.r_.S_, .int .i64 Md]) 82) → (xh 5 (ci .u8) 1 Mp L4 Mq Ms) → (xZ Mt LC ([qO LO 0, .slice Mp L4.length Mq, .int .i64 LE.limit_]) 84) → St w H [Mt, Mr, Ms] F → R (.returned (.int .i64 Mw)) w) :
    Calls Tryd.prog 89 ⟨[qO LC 0, .int .i64 LP, .agg ⟨[.slice LT LD.l_.length LV, .slice LU LD.codes_.length LW]⟩]⟩ w R := by
 refine enter Tryd.func89 rfl Tryd.ntmps89 rfl hS fun a w hS => ?_
 have hM := hm; clear hm
 rw [zM.m] at hM
 refine qk <| bx ([.slice LT LD.l_.length LV, .slice LU LD.codes_.length LW]) hS rfl rfl rfl fun w Me L8 Mm hS => sA hS rfl fun hS => qz <| wp_seq <| qk <| sM hS rfl fun hS => sB hS rfl fun hS => qz <| qy hS rfl hM (fun MB hM => ?_) (fun MB hM => ?_)
 ·refine wp_seq ?_
  refine zI <| sA hS rfl fun hS => qz <| wp_ret <| qA ?_
  exact zm (rs := [6]) hS rfl rfl (hret (3 : Int) LE.r_.At_ L7 LM LN LE.out_ LK LJ _ (qU hM) Ml LL LH (hS.st.pick [1, 2, 3] (by kernel_rfl)))
 ·refine wp_skip ?_
  refine qc <| qk <| sM hS rfl fun hS => qK hS rfl Tryd.call32 (yW hG K LP (hS.st.part 0 [0, 1, 2, 3] (by kernel_rfl)) (qx hM) (fun MR MS w hM  hst => qJ hS.ev hst.appF rfl fun hS => ?_))
  replace hS : Ss _ _ _ H [L8, LJ, L7, LK] F _ _ := hS
  refine sM hS rfl fun hS => sO hS (ex rfl rfl) rfl fun hS => sO hS (ex rfl rfl) rfl fun hS => sA hS rfl fun hS => sA hS rfl fun hS => qz <| qk <| sM hS rfl fun hS => sM hS rfl fun hS => sM hS rfl fun hS => qK hS rfl Tryd.call61 (zY hG K LE MS MR LC LJ LO L7 LM LN LK LH Ml LL (hS.st.part 3 [1, 2, 3, 0] (by kernel_rfl)) (qx hM) (fun LS MT Mc Mj w hM Mu hst => qJ hS.ev hst.appF rfl fun hS => ?_))
  replace hS : Ss _ _ _ H [LJ, Mj, LK, L8] F _ _ := hS
  refine sM hS rfl fun hS => sO hS (ex rfl rfl) rfl fun hS => sO hS (ex rfl rfl) rfl fun hS => sA hS rfl fun hS => sA hS rfl fun hS => qz <| wp_seq <| qk <| sM hS rfl fun hS => sB hS rfl fun hS => qz <| qy hS rfl hM (fun MC hM => ?_) (fun MC hM => ?_)
  ·refine wp_seq ?_
   refine zI <| sM hS rfl fun hS => sA hS rfl fun hS => qz <| wp_ret <| qA ?_
   exact zm (rs := [6]) hS rfl rfl (hret MT Mc Mj LM LN LE.out_ LK LJ _ (qU hM) Mu LL LH (hS.st.pick [0, 1, 2] (by kernel_rfl)))
  ·refine wp_skip ?_
   refine qc <| wp_seq <| zh (vals := [some (qO Me 0), some (.slice LT LD.l_.length LV), some (qO Me 1), some (.slice LU LD.codes_.length LW), some (qO LC 0), some (qO LC 0), some (qO LC 0), some (qO LO 0), none, none, none, none, none, none]) hS xH rfl ?_
   intro l w ho hcl hA hst
   refine jQ hA hst ho hcl xQ xI 8 [0, 1, 2, 3, 4, 5, 6, 7] rfl rfl rfl rfl rfl (by exact ⟨nQ rfl (by exact qY (xr rfl Tryd.runUnderlying121 rfl Tryd.sizeOf45 rfl) rfl), nQ rfl (by exact qY (xW 3 rfl Mm rfl rfl Tryd.isAgg45) rfl), nQ rfl (by exact qY (xr rfl Tryd.runUnderlying121 rfl Tryd.sizeOf45 rfl) rfl), nQ rfl (by exact qY (xW 3 rfl Mm rfl rfl Tryd.isAgg45) rfl), nM rfl, nQ rfl (by exact qY (yu rfl) rfl), nQ rfl (by exact qY (xr rfl Tryd.runUnderlying84 rfl Tryd.sizeOf80 rfl) rfl), nQ rfl (by exact qY (xW 0 rfl LH rfl rfl Tryd.isAgg80) rfl), trivial⟩) fun D l a w ho hcl hav hpre hm hE hk hA hst => ?_
   have hS := (Ss.mk hE hst).env2 (e' := [(37, .slice LT LD.l_.length LV), (39, .slice LU LD.codes_.length LW), (43, qO LO 0)]) ⟨rfl, rfl, rfl, trivial⟩
   refine zi rfl <| qK hS rfl Tryd.call88 (jp hG K LD.l_ LD.codes_ (qj.mk LE.r_.S_ Mc) LT LV LU LW LO Mj (MM.app _) MJ (MN.app _) MK Mu (hS.st.part 1 [1, 0, 2, 3] (by kernel_rfl)) (qx hM) (fun LZ L0 L1 L9 w hM Mk hst => qJ hS.ev hst.appF rfl fun hS => ?_))
   replace hS : Ss _ _ _ H [L9, LJ, LK, L8] F _ _ := hS
   refine qz ?_
   replace hst := hS.st
   obtain ⟨hcl, hmust, hav2, hA⟩ := dn (vals' := [some (qO Me 0), some (.slice LT LD.l_.length LV), some (qO Me 1), some (.slice LU LD.codes_.length LW), some (qO LC 0), some (qO LC 0), some (qO LC 0), some (qO LO 0), some (.tuple ⟨[.int .i64 LZ, .int .i64 L0]⟩), some (.tuple ⟨[.int .i64 LZ, .int .i64 L0]⟩), some (.int .i64 LZ), some (.int .i64 L0), some (.int .i64 LZ), some (.int .i64 L0)]) 8 [(1, 8), (3, 8), (7, 8), (0, 1), (2, 3), (6, 7), (5, 6), (4, 5)] hA hcl hav hm hpre hk rfl rfl rfl rfl rfl rfl rfl
   clear hm hav
   refine yo hA hst ho hcl hmust [9, 10, 11, 12, 13] rfl rfl rfl (by exact ⟨nM rfl, nQ rfl (by exact qY (ex rfl rfl) rfl), nQ rfl (by exact qY (ex rfl rfl) rfl), nA rfl, nA rfl, trivial⟩) fun a w hS => ?_
   replace hS := hS.env2 (e' := [(0, qO LC 0), (9, .int .i64 LS), (11, .int .i64 LZ), (12, .int .i64 L0)]) ⟨rfl, rfl, rfl, rfl, trivial⟩
   refine qc <| wp_seq <| qk <| sM hS rfl fun hS => sB hS rfl fun hS => qz <| qy hS rfl hM (fun MD hM => ?_) (fun MD hM => ?_)
   ·refine wp_seq ?_
    refine zI <| sM hS rfl fun hS => sA hS rfl fun hS => qz <| wp_ret <| qA ?_
    exact zm (rs := [6]) hS rfl rfl (hret L0 L1 L9 LM LN LE.out_ LK LJ _ (qU hM) Mk LL LH (hS.st.pick [1, 0, 2] (by kernel_rfl)))
   ·refine wp_skip ?_
    refine qc <| wp_seq <| qk <| sM hS rfl fun hS => sB hS rfl fun hS => qz <| qy hS rfl hM (fun ME hM => ?_) (fun ME hM => ?_)
    ·refine wp_seq ?_
     refine zI <| sA hS rfl fun hS => qz <| wp_ret <| qA ?_
     exact zm (rs := [6]) hS rfl rfl (hret (3 : Int) L1 L9 LM LN LE.out_ LK LJ _ (qU hM) Mk LL LH (hS.st.pick [1, 0, 2] (by kernel_rfl)))
    ·refine wp_skip ?_
     refine qc <| qk <| sM hS rfl fun hS => qK hS rfl Tryd.call33 (yI hG K LZ (hS.st.part 0 [0, 1, 2, 3] (by kernel_rfl)) (qx hM) (fun MU MV w hM  hst => qJ hS.ev hst.appF rfl fun hS => ?_))
     replace hS : Ss _ _ _ H [L9, LJ, LK, L8] F _ _ := hS
     refine sM hS rfl fun hS => sO hS (ex rfl rfl) rfl fun hS => sO hS (ex rfl rfl) rfl fun hS => sA hS rfl fun hS => sA hS rfl fun hS => qz <| qk <| sM hS rfl fun hS => sM hS rfl fun hS => sM hS rfl fun hS => qK hS rfl Tryd.call61 (zY hG K (qr.mk (qj.mk LE.r_.S_ L1) LE.out_ LE.limit_) MV MU LC LJ LO L9 LM LN LK LH Mk LL (hS.st.part 3 [1, 0, 2, 3] (by kernel_rfl)) (qx hM) (fun LF MW LQ LY w hM Mi hst => qJ hS.ev hst.appF rfl fun hS => ?_))
     replace hS : Ss _ _ _ H [LJ, LY, LK, L8] F _ _ := hS
     refine sM hS rfl fun hS => sO hS (ex rfl rfl) rfl fun hS => sO hS (ex rfl rfl) rfl fun hS => sA hS rfl fun hS => sA hS rfl fun hS => qz <| wp_seq <| qk <| sM hS rfl fun hS => sB hS rfl fun hS => qz <| qy hS rfl hM (fun MF hM => ?_) (fun MF hM => ?_)
     ·refine wp_seq ?_
      refine zI <| sM hS rfl fun hS => sA hS rfl fun hS => qz <| wp_ret <| qA ?_
      exact zm (rs := [6]) hS rfl rfl (hret MW LQ LY LM LN LE.out_ LK LJ _ (qU hM) Mi LL LH (hS.st.pick [0, 1, 2] (by kernel_rfl)))
     ·refine wp_skip ?_
      refine qc <| wp_seq <| qk <| sM hS rfl fun hS => sM hS rfl fun hS => sO hS (yu rfl) rfl fun hS => sO hS (xr rfl Tryd.runUnderlying84 rfl Tryd.sizeOf38 rfl) rfl fun hS => sO hS (xW 0 rfl LH rfl rfl Tryd.isAgg38) rfl fun hS => sO hS (ya rfl Tryd.runUnderlying38) rfl fun hS => sB hS rfl fun hS => qz <| qy hS rfl hM (fun MG hM => ?_) (fun MG hM => ?_)
      ·refine wp_seq ?_
       refine zI <| sA hS rfl fun hS => qz <| wp_ret <| qA ?_
       exact zm (rs := [6]) hS rfl rfl (hret (3 : Int) LQ LY LM LN LE.out_ LK LJ _ (qU hM) Mi LL LH (hS.st.pick [0, 1, 2] (by kernel_rfl)))
      ·refine wp_skip ?_
       refine qc <| wp_seq <| wp_seq <| zh (vals := [some (.int .i64 LS), some (qO LC 0), some (qO LC 0), some (qO LC 2), some (.int .i64 LE.limit_), some (qO LC 0), some (qO LC 0), some (qO LC 1), some (.slice LM LE.out_.length LN), some (.int .i64 (LE.out_.length : Int)), some (.int .i64 (qi (LE.limit_ - (LE.out_.length : Int)))), some (.bool (decide (LS > (qi (LE.limit_ - (LE.out_.length : Int))))))]) hS xH rfl ?_
       intro l w ho hcl hA hst
       refine yo hA hst ho hcl xI [0, 1, 2, 3, 4, 5, 6, 7, 8, 9, 10, 11] rfl rfl rfl (by exact ⟨nM rfl, nM rfl, nQ rfl (by exact qY (yu rfl) rfl), nQ rfl (by exact qY (xr rfl Tryd.runUnderlying84 rfl Tryd.sizeOf3 rfl) rfl), nQ rfl (by exact qY (xW 0 rfl LH rfl rfl Tryd.isAgg3) rfl), nM rfl, nQ rfl (by exact qY (yu rfl) rfl), nQ rfl (by exact qY (xr rfl Tryd.runUnderlying84 rfl Tryd.sizeOf38 rfl) rfl), nQ rfl (by exact qY (xW 0 rfl LH rfl rfl Tryd.isAgg38) rfl), nQ rfl (by exact qY (ya rfl Tryd.runUnderlying38) rfl), nB rfl, nB rfl, trivial⟩) fun a w hS => ?_
       replace hS := hS.env2 (e' := [(0, qO LC 0), (9, .int .i64 LS), (15, .int .i64 LF), (85, .bool (decide (LS > (qi (LE.limit_ - (LE.out_.length : Int))))))]) ⟨rfl, rfl, rfl, rfl, trivial⟩
       refine qc <| qy hS rfl hM (fun MH hM => ?_) (fun MH hM => ?_)
       ·refine wp_seq ?_
        refine zI <| sA hS rfl fun hS => qz <| wp_ret <| qA ?_
        exact zm (rs := [6]) hS rfl rfl (hret (11 : Int) LQ LY LM LN LE.out_ LK LJ _ (qU hM) Mi LL LH (hS.st.pick [0, 1, 2] (by kernel_rfl)))
       ·refine wp_skip ?_
        refine qc <| wp_seq <| qk <| sA hS rfl fun hS => qz <| xJ <| zv (fun Mv a w => ∃ (LG : Option Addr) (LI : Nat) (LB : (List Int)) (Mg : qm) (Mh : qm) (Ma : Int), Ss 113 [] [(0, qO LC 0), (9, .int .i64 LS), (15, .int .i64 LF), (17, .int .i64 Ma)] H [Mh, LY, Mg] F a w ∧ (xh 5 (ci .u8) 1 LG LB LI Mg) ∧ (xZ Mh LC ([qO LO 0, .slice LG LB.length LI, .int .i64 LE.limit_]) 84) ∧ (zM.l1 K LS LF LQ Mv LB Ma).wp kr kp) K ?_ ?_ ?_
        ·exact ⟨LM, LN, LE.out_, LK, LJ, (0 : Int), hS.to [0, 1, 2] (by kernel_rfl) ⟨rfl, rfl, rfl, rfl, trivial⟩, LL, LH, hM⟩
        ·intro a w hI; obtain ⟨_, _, _, _, _, _, _, _, _, hM⟩ := hI; exact zr hM
        ·intro Mv a w hI MX My
         obtain ⟨LG, LI, LB, Mg, Mh, Ma, hS, L3, LR, hM⟩ := hI
         rw [zM.l1] at hM
         refine wp_seq <| qk <| sM hS rfl fun hS => sM hS rfl fun hS => sB hS rfl fun hS => qz <| qy hS rfl hM (fun MI hM => ?_) (fun MI hM => ?_)
         ·refine wp_skip ?_
          refine qc <| wp_seq <| xJ ?_
          obtain ⟨Mn, hM⟩ := qE hM
          refine zh (vals := [some (qO LC 0), some (qO LC 0), some (qO LC 0), some (qO LC 1), some (.slice LG LB.length LI), some (qO LC 0), some (qO LC 0), some (qO LC 1), some (.slice LG LB.length LI), some (qO LC 0), some (qO LC 0), some (qO LC 1), some (.slice LG LB.length LI), some (.int .i64 (LB.length : Int)), some (.int .i64 LF), some (.int .i64 (qi ((LB.length : Int) - LF))), some (xz LG (Int.toNat (qi ((LB.length : Int) - LF)) * 1)), some (.int .u8 (rd LB (qi ((LB.length : Int) - LF)))), none, none, none, none, none]) hS xH rfl ?_
          intro l w ho hcl hA hst
          refine jQ hA hst ho hcl xQ xI 18 [0, 1, 2, 3, 4, 5, 6, 7, 8, 9, 10, 11, 12, 13, 14, 15, 16, 17] rfl rfl rfl rfl rfl (by exact ⟨nM rfl, nM rfl, nQ rfl (by exact qY (yu rfl) rfl), nQ rfl (by exact qY (xr rfl Tryd.runUnderlying84 rfl Tryd.sizeOf38 rfl) rfl), nQ rfl (by exact qY (xW 0 rfl LR rfl rfl Tryd.isAgg38) rfl), nM rfl, nQ rfl (by exact qY (yu rfl) rfl), nQ rfl (by exact qY (xr rfl Tryd.runUnderlying84 rfl Tryd.sizeOf38 rfl) rfl), nQ rfl (by exact qY (xW 0 rfl LR rfl rfl Tryd.isAgg38) rfl), nM rfl, nQ rfl (by exact qY (yu rfl) rfl), nQ rfl (by exact qY (xr rfl Tryd.runUnderlying84 rfl Tryd.sizeOf38 rfl) rfl), nQ rfl (by exact qY (xW 0 rfl LR rfl rfl Tryd.isAgg38) rfl), nQ rfl (by exact qY (ya rfl Tryd.runUnderlying38) rfl), nM rfl, nB rfl, nQ rfl (by exact qY (x6 rfl rfl Tryd.runUnderlying38 Tryd.sizeOf5 (L3.rd (i := 2) rfl) (fun _ => rfl) rfl Mn) rfl), nQ rfl (by exact qY (x9 rfl (L3.rd (i := 2) rfl) (fun _ => rfl) Mn rfl Tryd.isAgg5) rfl), trivial⟩) fun D l a w ho hcl hav hpre hm hE hk hA hst => ?_
          have hS := (Ss.mk hE hst).env2 (e' := [(108, .int .u8 (rd LB (qi ((LB.length : Int) - LF))))]) ⟨rfl, trivial⟩
          refine zi rfl <| Xs (g := (ci .u8)) ([(rd LB (qi ((LB.length : Int) - LF)))] : List Int) [.int .u8 (rd LB (qi ((LB.length : Int) - LF)))] hS Tryd.runUnderlying38 Tryd.sizeOf5 X.el5 rfl rfl rfl (by simp [Value.cells]) rfl rfl rfl rfl rfl fun w Mb Mf MY Mz hS => qz ?_
          replace hst := hS.st
          obtain ⟨hcl, hmust, hav2, hA⟩ := dn (vals' := [some (qO LC 0), some (qO LC 0), some (qO LC 0), some (qO LC 1), some (.slice LG LB.length LI), some (qO LC 0), some (qO LC 0), some (qO LC 1), some (.slice LG LB.length LI), some (qO LC 0), some (qO LC 0), some (qO LC 1), some (.slice LG LB.length LI), some (.int .i64 (LB.length : Int)), some (.int .i64 LF), some (.int .i64 (qi ((LB.length : Int) - LF))), some (xz LG (Int.toNat (qi ((LB.length : Int) - LF)) * 1)), some (.int .u8 (rd LB (qi ((LB.length : Int) - LF)))), some (.slice Mb ([(rd LB (qi ((LB.length : Int) - LF)))] : List Int).length Mf), none, none, none, none]) 18 [(17, 18), (16, 17), (8, 16), (15, 16), (7, 8), (13, 15), (14, 15), (6, 7), (12, 13), (5, 6), (11, 12), (10, 11), (9, 10)] hA hcl hav hm hpre hk rfl rfl rfl rfl rfl rfl rfl
          clear hm hav
          refine jQ hA hst ho hcl hav2 hmust 19 [0, 1, 2, 3, 4] rfl rfl rfl rfl rfl (by exact ⟨nM rfl, nM rfl, nQ rfl (by exact qY (yu rfl) rfl), nQ rfl (by exact qY (xr rfl Tryd.runUnderlying84 rfl Tryd.sizeOf38 rfl) rfl), nQ rfl (by exact qY (xW 1 rfl LR rfl rfl Tryd.isAgg38) rfl), trivial⟩) fun D l a w ho hcl hav hpre hm hE hk hA hst => ?_
          have hS := (Ss.mk hE hst).env2 (e' := [(95, .slice LG LB.length LI), (109, .slice Mb ([(rd LB (qi ((LB.length : Int) - LF)))] : List Int).length Mf)]) ⟨rfl, rfl, trivial⟩
          refine zi rfl ?_
          obtain ⟨ML, hM⟩ := qE hM
          refine Yk (ys := ([(rd LB (qi ((LB.length : Int) - LF)))] : List Int)) 3 hS rfl rfl L3 rfl (Mz.rd (i := 0) rfl) Tryd.runUnderlying38 Tryd.runUnderlying38 X.el5 (fun _ => rfl) rfl uA ML rfl fun LX w L5 L6 MO hz MA hS => ?_
          have hM := qB hz hM; clear hz
          refine qz ?_
          replace hst := hS.st
          obtain ⟨hcl, hmust, hav2, hA⟩ := dn (vals' := [some (qO LC 0), some (qO LC 0), some (qO LC 0), some (qO LC 1), some (.slice LG LB.length LI), some (qO LC 0), some (qO LC 0), some (qO LC 1), some (.slice LG LB.length LI), some (qO LC 0), some (qO LC 0), some (qO LC 1), some (.slice LG LB.length LI), some (.int .i64 (LB.length : Int)), some (.int .i64 LF), some (.int .i64 (qi ((LB.length : Int) - LF))), some (xz LG (Int.toNat (qi ((LB.length : Int) - LF)) * 1)), some (.int .u8 (rd LB (qi ((LB.length : Int) - LF)))), some (.slice Mb ([(rd LB (qi ((LB.length : Int) - LF)))] : List Int).length Mf), some (.slice L5 LX.length L6), some (qO LC 0), some (qO LC 1), none]) 19 [(4, 19), (18, 19), (3, 4), (17, 18), (2, 3), (16, 17), (1, 2), (8, 16), (15, 16), (7, 8), (13, 15), (14, 15), (6, 7), (12, 13), (5, 6), (11, 12), (10, 11), (9, 10)] hA hcl hav hm hpre hk rfl rfl rfl rfl rfl rfl rfl
          clear hm hav
          refine jQ hA hst ho hcl hav2 hmust 22 [0, 20, 21] rfl rfl rfl rfl rfl (by exact ⟨nM rfl, nQ rfl (by exact qY (yu rfl) rfl), nQ rfl (by exact qY (xr rfl Tryd.runUnderlying84 rfl Tryd.sizeOf38 rfl) rfl), trivial⟩) fun D l a w ho hcl hav hpre hm hE hk hA hst => ?_
          have hS := (Ss.mk hE hst).env2 (e' := [(110, .slice L5 LX.length L6), (112, qO LC 1)]) ⟨rfl, rfl, trivial⟩
          refine zi rfl <| U8 1 ([qO LO 0, .slice L5 LX.length L6, .int .i64 LE.limit_]) hS rfl rfl LR rfl rfl rfl rfl Tryd.sizeOf38 fun w MP Mx hS => qz ?_
          replace hst := hS.st
          obtain ⟨hcl, hmust, hav2, hA⟩ := Jy (vals' := [some (qO LC 0), some (qO LC 0), some (qO LC 0), some (qO LC 1), some (.slice LG LB.length LI), some (qO LC 0), some (qO LC 0), some (qO LC 1), some (.slice LG LB.length LI), some (qO LC 0), some (qO LC 0), some (qO LC 1), some (.slice LG LB.length LI), some (.int .i64 (LB.length : Int)), some (.int .i64 LF), some (.int .i64 (qi ((LB.length : Int) - LF))), some (xz LG (Int.toNat (qi ((LB.length : Int) - LF)) * 1)), some (.int .u8 (rd LB (qi ((LB.length : Int) - LF)))), some (.slice Mb ([(rd LB (qi ((LB.length : Int) - LF)))] : List Int).length Mf), some (.slice L5 LX.length L6), some (qO LC 0), some (qO LC 1), some undef]) 22 [(0, 22), (1, 22), (2, 22), (3, 22), (4, 22), (5, 22), (6, 22), (7, 22), (8, 22), (9, 22), (10, 22), (11, 22), (12, 22), (13, 22), (14, 22), (15, 22), (16, 22), (17, 22), (18, 22), (19, 22), (21, 22), (20, 21)] hA hcl hav hm hpre rfl rfl rfl rfl rfl
          clear hm hav
          refine yo hA hst ho hcl hmust [] rfl rfl rfl trivial fun a w hS => ?_
          replace hS := hS.env2 (e' := [(0, qO LC 0), (9, .int .i64 LS), (15, .int .i64 LF), (17, .int .i64 Ma)]) ⟨rfl, rfl, rfl, rfl, trivial⟩
          refine zz (qc ?_)
          refine zI <| sM hS rfl fun hS => sB hS rfl fun hS => zH (v := Value.int .i64) (x0 := (qi (Ma + (1 : Int)))) hS (xv rfl) rfl fun MQ a w hz hS => ?_
          have hM := qB hz hM; clear hz
          refine zd <| qc ?_
          exact My _ _ ⟨L5, L6, LX, MO, MP, MQ, hS.to [1, 2, 3] (by kernel_rfl) ⟨rfl, rfl, rfl, rfl, trivial⟩, MA, Mx, hM⟩
         ·refine wp_exit ?_
          refine qC (qC (q9 (qc ?_)))
          refine qk <| sA hS rfl fun hS => qz <| wp_ret ?_
          exact zm (rs := [6]) hS rfl rfl (hret (0 : Int) LQ LY LG LI LB Mg Mh _ (qU hM) Mi L3 LR (hS.st.pick [0, 1, 2] (by kernel_rfl)))
theorem yS {H : xU} {F : List qm} {w : World} {R : Ending → World → Prop} {kr : (Int × Int × (List Int)) → Prop} {kp : Value → Prop} (hG : Gl H) (K : Nat) (LF : qr) (LB : zp) (LC : zp) (LE : Nat) (Mb : qm) (LH : Nat) (Mc : qm) (L8 : Option Addr) (Ma : Nat) (Md : qm) (LP : Option Addr) (LS : Nat) (LQ : Option Addr) (LT : Nat) (LY : Option Addr) (L0 : Nat) (LZ : Option Addr) (L1 : Nat) (MB : xZ Mb LE ([qO LH 0, .slice L8 LF.out_.length Ma, .int .i64 LF.limit_]) 84) (MC : xZ Mc LH ([yb LF.r_.S_, .int .i64 LF.r_.At_]) 82) (MG : xh 5 (ci .u8) 1 L8 LF.out_ Ma Md) (MT : jn H [] F (ci .i64) LP LB.l_) (MO : LB.l_.length ≤ LS) (MU : jn H [] F (ci .i64) LQ LB.codes_) (MP : LB.codes_.length ≤ LT) (MV : jn H [] F (ci .i64) LY LC.l_) (MQ : LC.l_.length ≤ L0) (MW : jn H [] F (ci .i64) LZ LC.codes_) (MR : LC.codes_.length ≤ L1)
    (hS : St w H [Mb, Mc, Md] F) (hm : (zE.m K LF LB LC).wp kr kp)
    (hret : ∀ (MA : Int) (L5 : Int) (Mt : qm) (Mp : Option Addr) (Ms : Nat) (LX : (List Int)) (Mu : qm) (Mv : qm) (w : World), kr (MA, L5, LX) → (xZ Mt LH ([yb LF.r_.S_, .int .i64 L5]) 82) → (xh 5 (ci .u8) 1 Mp LX Ms Mu) → (xZ Mv LE ([qO LH 0, .slice Mp LX.length Ms, .int .i64 LF.limit_]) 84) → St w H [Mv, Mt, Mu] F → R (.returned (.int .i64 MA)) w) :
    Calls Tryd.prog 64 ⟨[qO LE 0, .agg ⟨[.slice LP LB.l_.length LS, .slice LQ LB.codes_.length LT]⟩, .agg ⟨[.slice LY LC.l_.length L0, .slice LZ LC.codes_.length L1]⟩]⟩ w R := by
 refine enter Tryd.func64 rfl Tryd.ntmps64 rfl hS fun a w hS => ?_
 have hM := hm; clear hm
 rw [zE.m] at hM
 refine qk <| bx ([.slice LP LB.l_.length LS, .slice LQ LB.codes_.length LT]) hS rfl rfl rfl fun w LR Me Mj hS => bx ([.slice LY LC.l_.length L0, .slice LZ LC.codes_.length L1]) hS rfl rfl rfl fun w L9 Mf MD hS => sA hS rfl fun hS => qz <| xJ <| zv (fun Mz a w => ∃ (LO : Int) (L6 : qm) (LK : Option Addr) (LL : Nat) (LD : (List Int)) (LM : qm) (LN : qm), Ss 57 [] [(0, qO LE 0), (4, qO LR 0), (5, qO L9 0)] H [LN, L6, LM, Me, Mf] F a w ∧ (xZ L6 LH ([yb LF.r_.S_, .int .i64 LO]) 82) ∧ (xh 5 (ci .u8) 1 LK LD LL LM) ∧ (xZ LN LE ([qO LH 0, .slice LK LD.length LL, .int .i64 LF.limit_]) 84) ∧ (zE.l1 K LF LB LC Mz LO LD).wp kr kp) K ?_ ?_ ?_
 ·exact ⟨LF.r_.At_, Mc, L8, Ma, LF.out_, Md, Mb, hS.to [2, 3, 4, 1, 0] (by kernel_rfl) ⟨rfl, rfl, rfl, trivial⟩, MC, MG, MB, hM⟩
 ·intro a w hI; obtain ⟨_, _, _, _, _, _, _, _, _, _, _, hM⟩ := hI; exact zr hM
 ·intro Mz a w hI M3 Mk
  obtain ⟨LO, L6, LK, LL, LD, LM, LN, hS, ME, LU, LG, hM⟩ := hI
  rw [zE.l1] at hM
  refine xJ <| wp_seq <| zh (vals := [some (qO LR 0), some (.slice LP LB.l_.length LS), some (qO LR 1), some (.slice LQ LB.codes_.length LT), some (qO LE 0), some (qO LE 0), some (qO LE 0), some (qO LH 0), none, none, none, none, none, none]) hS xH rfl ?_
  intro l w ho hcl hA hst
  refine jQ hA hst ho hcl xQ xI 8 [0, 1, 2, 3, 4, 5, 6, 7] rfl rfl rfl rfl rfl (by exact ⟨nQ rfl (by exact qY (xr rfl Tryd.runUnderlying121 rfl Tryd.sizeOf45 rfl) rfl), nQ rfl (by exact qY (xW 3 rfl Mj rfl rfl Tryd.isAgg45) rfl), nQ rfl (by exact qY (xr rfl Tryd.runUnderlying121 rfl Tryd.sizeOf45 rfl) rfl), nQ rfl (by exact qY (xW 3 rfl Mj rfl rfl Tryd.isAgg45) rfl), nM rfl, nQ rfl (by exact qY (yu rfl) rfl), nQ rfl (by exact qY (xr rfl Tryd.runUnderlying84 rfl Tryd.sizeOf80 rfl) rfl), nQ rfl (by exact qY (xW 0 rfl LG rfl rfl Tryd.isAgg80) rfl), trivial⟩) fun D l a w ho hcl hav hpre hm hE hk hA hst => ?_
  have hS := (Ss.mk hE hst).env2 (e' := [(12, .slice LP LB.l_.length LS), (14, .slice LQ LB.codes_.length LT), (18, qO LH 0)]) ⟨rfl, rfl, rfl, trivial⟩
  refine zi rfl <| qK hS rfl Tryd.call88 (jp hG K LB.l_ LB.codes_ (qj.mk LF.r_.S_ LO) LP LS LQ LT LH L6 (MT.app _) MO (MU.app _) MP ME (hS.st.part 1 [1, 0, 2, 3, 4] (by kernel_rfl)) (qx hM) (fun LI LW LJ LV w hM L3 hst => qJ hS.ev hst.appF rfl fun hS => ?_))
  replace hS : Ss _ _ _ H [LV, LN, LM, Me, Mf] F _ _ := hS
  refine qz ?_
  replace hst := hS.st
  obtain ⟨hcl, hmust, hav2, hA⟩ := dn (vals' := [some (qO LR 0), some (.slice LP LB.l_.length LS), some (qO LR 1), some (.slice LQ LB.codes_.length LT), some (qO LE 0), some (qO LE 0), some (qO LE 0), some (qO LH 0), some (.tuple ⟨[.int .i64 LI, .int .i64 LW]⟩), some (.tuple ⟨[.int .i64 LI, .int .i64 LW]⟩), some (.int .i64 LI), some (.int .i64 LW), some (.int .i64 LI), some (.int .i64 LW)]) 8 [(1, 8), (3, 8), (7, 8), (0, 1), (2, 3), (6, 7), (5, 6), (4, 5)] hA hcl hav hm hpre hk rfl rfl rfl rfl rfl rfl rfl
  clear hm hav
  refine yo hA hst ho hcl hmust [9, 10, 11, 12, 13] rfl rfl rfl (by exact ⟨nM rfl, nQ rfl (by exact qY (ex rfl rfl) rfl), nQ rfl (by exact qY (ex rfl rfl) rfl), nA rfl, nA rfl, trivial⟩) fun a w hS => ?_
  replace hS := hS.env2 (e' := [(0, qO LE 0), (4, qO LR 0), (5, qO L9 0), (7, .int .i64 LI), (8, .int .i64 LW)]) ⟨rfl, rfl, rfl, rfl, rfl, trivial⟩
  refine qc <| wp_seq <| qk <| sM hS rfl fun hS => sB hS rfl fun hS => qz <| qy hS rfl hM (fun MJ hM => ?_) (fun MJ hM => ?_)
  ·refine wp_seq ?_
   refine zI <| sM hS rfl fun hS => sA hS rfl fun hS => qz <| wp_ret <| qA (z3 (qA (z3 ?_)))
   exact zm (rs := [6]) hS rfl rfl (hret LW LJ LV LK LL LD LM LN _ (qU hM) L3 LU LG (hS.st.pick [1, 0, 2] (by kernel_rfl)))
  ·refine wp_skip ?_
   refine qc <| wp_seq <| qk <| sM hS rfl fun hS => sB hS rfl fun hS => qz <| qy hS rfl hM (fun MK hM => ?_) (fun MK hM => ?_)
   ·refine wp_seq ?_
    refine zI <| sA hS rfl fun hS => qz <| wp_ret <| qA (z3 (qA (z3 ?_)))
    exact zm (rs := [6]) hS rfl rfl (hret (0 : Int) LJ LV LK LL LD LM LN _ (qU hM) L3 LU LG (hS.st.pick [1, 0, 2] (by kernel_rfl)))
   ·refine wp_skip ?_
    refine qc <| wp_seq <| qk <| sM hS rfl fun hS => sB hS rfl fun hS => qz <| qy hS rfl hM (fun ML hM => ?_) (fun ML hM => ?_)
    ·refine wp_seq ?_
     refine wp_seq <| zh (vals := [some (qO LE 0), some (qO LE 0), some (qO LE 1), some (.slice LK LD.length LL), some (.int .i64 (LD.length : Int)), some (qO LE 0), some (qO LE 0), some (qO LE 2), some (.int .i64 LF.limit_), some (.bool (decide ((LD.length : Int) ≥ LF.limit_)))]) hS xH rfl ?_
     intro l w ho hcl hA hst
     refine yo hA hst ho hcl xI [0, 1, 2, 3, 4, 5, 6, 7, 8, 9] rfl rfl rfl (by exact ⟨nM rfl, nQ rfl (by exact qY (yu rfl) rfl), nQ rfl (by exact qY (xr rfl Tryd.runUnderlying84 rfl Tryd.sizeOf38 rfl) rfl), nQ rfl (by exact qY (xW 1 rfl LG rfl rfl Tryd.isAgg38) rfl), nQ rfl (by exact qY (ya rfl Tryd.runUnderlying38) rfl), nM rfl, nQ rfl (by exact qY (yu rfl) rfl), nQ rfl (by exact qY (xr rfl Tryd.runUnderlying84 rfl Tryd.sizeOf3 rfl) rfl), nQ rfl (by exact qY (xW 1 rfl LG rfl rfl Tryd.isAgg3) rfl), nB rfl, trivial⟩) fun a w hS => ?_
     replace hS := hS.env2 (e' := [(0, qO LE 0), (4, qO LR 0), (5, qO L9 0), (7, .int .i64 LI), (38, .bool (decide ((LD.length : Int) ≥ LF.limit_)))]) ⟨rfl, rfl, rfl, rfl, rfl, trivial⟩
     refine qc <| qy hS rfl hM (fun MM hM => ?_) (fun MM hM => ?_)
     ·refine wp_seq ?_
      refine zI <| sA hS rfl fun hS => qz <| wp_ret <| qA (qA (z3 (qA (z3 ?_))))
      exact zm (rs := [6]) hS rfl rfl (hret (11 : Int) LJ LV LK LL LD LM LN _ (qU hM) L3 LU LG (hS.st.pick [1, 0, 2] (by kernel_rfl)))
     ·refine wp_skip ?_
      refine qc <| qk <| sM hS rfl fun hS => sM hS rfl fun hS => sO hS (yu rfl) rfl fun hS => sO hS (xr rfl Tryd.runUnderlying84 rfl Tryd.sizeOf38 rfl) rfl fun hS => sO hS (xW 1 rfl LG rfl rfl Tryd.isAgg38) rfl fun hS => sM hS rfl fun hS => sO hS (vH rfl Tryd.runUnderlying3 Tryd.runUnderlying5) rfl fun hS => Xs (g := (ci .u8)) ([(wr .u8 LI)] : List Int) [.int .u8 (wr .u8 LI)] hS Tryd.runUnderlying38 Tryd.sizeOf5 X.el5 rfl rfl rfl (by simp [Value.cells]) rfl rfl rfl rfl rfl fun w M0 M4 M5 MH hS => ?_
      obtain ⟨MS, hM⟩ := qE hM
      refine Yk (ys := ([(wr .u8 LI)] : List Int)) 3 hS rfl rfl LU rfl (MH.rd (i := 0) rfl) Tryd.runUnderlying38 Tryd.runUnderlying38 X.el5 (fun _ => rfl) rfl uA MS rfl fun Ml w Mm Mq MX hz MI hS => ?_
      have hM := qB hz hM; clear hz
      refine sO hS (yu rfl) rfl fun hS => sO hS (xr rfl Tryd.runUnderlying84 rfl Tryd.sizeOf38 rfl) rfl fun hS => U8 2 ([qO LH 0, .slice Mm Ml.length Mq, .int .i64 LF.limit_]) hS rfl rfl LG rfl rfl rfl rfl Tryd.sizeOf38 fun w MY MF hS => qz <| wp_exit <| qC (q9 (qc ?_))
      exact Mk _ _ ⟨LJ, LV, Mm, Mq, Ml, MX, MY, hS.to [2, 1, 3, 4, 5] (by kernel_rfl) ⟨rfl, rfl, rfl, trivial⟩, L3, MI, MF, hM⟩
    ·refine wp_skip ?_
     refine qc <| qk <| sM hS rfl fun hS => sM hS rfl fun hS => sO hS (vT 4 rfl MD rfl ([.slice LY LC.l_.length L0, .slice LZ LC.codes_.length L1]) rfl rfl Tryd.isAgg121 Tryd.sizeOf121) rfl fun hS => qK hS rfl Tryd.call89 (vY hG K (qr.mk (qj.mk LF.r_.S_ LJ) LD LF.limit_) LI LC LE LN LH LV LK LL LM LY L0 LZ L1 LG L3 LU (MV.app _) MQ (MW.app _) MR (hS.st.part 3 [1, 0, 2, 3, 4] (by kernel_rfl)) (qx hM) (fun MZ L4 Mg Mn Mr L7 Mh Mi w hM Mw Mx My hst => qJ hS.ev hst.appF rfl fun hS => ?_))
     replace hS : Ss _ _ _ H [Mi, Mg, Mh, Me, Mf] F _ _ := hS
     refine sA hS rfl fun hS => qz <| qk <| sM hS rfl fun hS => sB hS rfl fun hS => qz <| qy hS rfl hM (fun MN hM => ?_) (fun MN hM => ?_)
     ·refine wp_seq ?_
      refine zI <| sM hS rfl fun hS => sA hS rfl fun hS => qz <| wp_ret <| z3 (qA (z3 ?_))
      exact zm (rs := [6]) hS rfl rfl (hret MZ L4 Mg Mn Mr L7 Mh Mi _ (qU hM) Mw Mx My (hS.st.pick [0, 1, 2] (by kernel_rfl)))
     ·refine wp_skip ?_
      refine zz (qc ?_)
      exact Mk _ _ ⟨L4, Mg, Mn, Mr, L7, Mh, Mi, hS.to [0, 1, 2, 3, 4] (by kernel_rfl) ⟨rfl, rfl, rfl, trivial⟩, Mw, Mx, My, hM⟩
theorem Qt {H : xU} {F : List qm} {w : World} {R : Ending → World → Prop} {kr : Unit → Prop} {kp : Value → Prop} (hG : Gl H) (K : Nat)
    (hS : St w H [] F) (hm : (yN.m K).wp kr kp)
    (hret : ∀ (LB : Option Addr) (LC : Nat) (LD : qm) (w : World), kr () → (xh 3 (ci .i64) 1 LB ([(16 : Int), (17 : Int), (18 : Int), (0 : Int), (8 : Int), (7 : Int), (9 : Int), (6 : Int), (10 : Int), (5 : Int), (11 : Int), (4 : Int), (12 : Int), (3 : Int), (13 : Int), (2 : Int), (14 : Int), (1 : Int), (15 : Int)] : List Int) LC LD) → St w H [LD] F → R (.returned (.slice LB ([(16 : Int), (17 : Int), (18 : Int), (0 : Int), (8 : Int), (7 : Int), (9 : Int), (6 : Int), (10 : Int), (5 : Int), (11 : Int), (4 : Int), (12 : Int), (3 : Int), (13 : Int), (2 : Int), (14 : Int), (1 : Int), (15 : Int)] : List Int).length LC)) w) :
    Calls Tryd.prog 104 ⟨[]⟩ w R := by
 refine enter Tryd.func104 rfl Tryd.ntmps104 rfl hS fun a w hS => ?_
 have hM := hm; clear hm
 rw [yN.m] at hM
 refine qk <| sA hS rfl fun hS => ?_
 obtain ⟨LJ, LI, hS⟩ := hS.nilV 3 (ci .i64) 1
 refine qz <| qk <| Xs (g := (ci .i64)) ([(16 : Int), (17 : Int), (18 : Int), (0 : Int), (8 : Int), (7 : Int), (9 : Int), (6 : Int), (10 : Int), (5 : Int), (11 : Int), (4 : Int), (12 : Int), (3 : Int), (13 : Int), (2 : Int), (14 : Int), (1 : Int), (15 : Int)] : List Int) [.int .i64 (16 : Int), .int .i64 (17 : Int), .int .i64 (18 : Int), .int .i64 (0 : Int), .int .i64 (8 : Int), .int .i64 (7 : Int), .int .i64 (9 : Int), .int .i64 (6 : Int), .int .i64 (10 : Int), .int .i64 (5 : Int), .int .i64 (11 : Int), .int .i64 (4 : Int), .int .i64 (12 : Int), .int .i64 (3 : Int), .int .i64 (13 : Int), .int .i64 (2 : Int), .int .i64 (14 : Int), .int .i64 (1 : Int), .int .i64 (15 : Int)] hS Tryd.runUnderlying45 Tryd.sizeOf3 X.el3 rfl rfl rfl (by simp [Value.cells]) rfl rfl rfl rfl rfl fun w LF LG LH LE hS => sA hS rfl fun hS => qz <| wp_ret ?_
 exact zm (rs := [0]) hS rfl rfl (hret LF LG LH _ (qU hM) LE (hS.st.pick [0] (by kernel_rfl)))
theorem v9 {H : xU} {F : List qm} {w : World} {R : Ending → World → Prop} {kr : (Int × Int × (List Int) × (List Int) × Int × Int) → Prop} {kp : Value → Prop} (hG : Gl H) (K : Nat) (LF : qr) (LX : Nat) (LG : qm) (LR : Nat) (Mk : qm) (LY : Option Addr) (LZ : Nat) (LH : qm) (L3 : xZ LG LX ([qO LR 0, .slice LY LF.out_.length LZ, .int .i64 LF.limit_]) 84) (MT : xZ Mk LR ([yb LF.r_.S_, .int .i64 LF.r_.At_]) 82) (L4 : xh 5 (ci .u8) 1 LY LF.out_ LZ LH)
    (hS : St w H [LG, Mk, LH] F) (hm : (q7.m K LF).wp kr kp)
    (hret : ∀ (MQ : Int) (MR : Int) (Mx : Option Addr) (Mz : Nat) (Mc : (List Int)) (MD : qm) (My : Option Addr) (MA : Nat) (LS : (List Int)) (ME : qm) (MS : Int) (Mh : Int) (MF : qm) (w : World), kr (MQ, MR, Mc, LS, MS, Mh) → (xh 3 (ci .i64) 1 Mx Mc Mz MD) → (xh 3 (ci .i64) 1 My LS MA ME) → (xZ MF LR ([yb LF.r_.S_, .int .i64 Mh]) 82) → St w H [MD, ME, LG, MF, LH] F → R (.returned (.tuple ⟨[.int .i64 MQ, .int .i64 MR, .agg ⟨[.slice Mx Mc.length Mz, .slice My LS.length MA]⟩, .int .i64 MS]⟩)) w) :
    Calls Tryd.prog 90 ⟨[qO LX 0]⟩ w R := by
 refine enter Tryd.func90 rfl Tryd.ntmps90 rfl hS fun a w hS => ?_
 have hM := hm; clear hm
 rw [q7.m] at hM
 refine qk <| sA hS rfl fun hS => sA hS rfl fun hS => QJ ([.slice none 0 0, .slice none 0 0]) hS Tryd.zeroValue121 rfl rfl fun w Mi LT LN hS => ?_
 obtain ⟨LU, NN, hS⟩ := hS.nilV 3 (ci .i64) 1
 obtain ⟨LV, NO, hS⟩ := hS.nilV 3 (ci .i64) 1
 refine sA hS rfl fun hS => qz <| qk <| sM hS rfl fun hS => qK hS rfl Tryd.call61 (zY hG K LF (5 : Int) (257 : Int) LX LG LR Mk LY LZ LH L3 MT L4 (hS.st.part 3 [3, 4, 5, 0, 1, 2] (by kernel_rfl)) (qx hM) (fun LI ML Me Ml w hM MG hst => qJ hS.ev hst.appF rfl fun hS => ?_))
 replace hS : Ss _ _ _ H [LG, Ml, LH, LV, LU, LT] F _ _ := hS
 refine sM hS rfl fun hS => sO hS (ex rfl rfl) rfl fun hS => sO hS (ex rfl rfl) rfl fun hS => sA hS rfl fun hS => sA hS rfl fun hS => qz <| wp_seq <| qk <| sM hS rfl fun hS => sB hS rfl fun hS => qz <| qy hS rfl hM (fun Nm hM => ?_) (fun Nm hM => ?_)
 ·refine wp_seq ?_
  refine zI <| sO hS (Zq ([.slice none 0 0, .slice none 0 0]) [(0, 1), (1, 1)] Tryd.zeroValue121 Tryd.runUnderlying121 (by intro w; simp [Tryd.sizeOf45]) rfl rfl) rfl fun hS => sM hS rfl fun hS => sA hS rfl fun hS => sA hS rfl fun hS => u5 5 ([.slice none 0 0, .slice none 0 0]) ([.slice none 0 0, .slice none 0 0]) hS rfl rfl LN rfl rfl Tryd.sizeOf121 (by simp [Value.oneCell']) (Nat.le_of_ble_eq_true rfl) rfl fun w NU MU hS => ?_
  obtain ⟨Nx, M7, hS⟩ := hS.nilV 3 (ci .i64) 1
  obtain ⟨Ny, M8, hS⟩ := hS.nilV 3 (ci .i64) 1
  refine sA hS rfl fun hS => qz <| wp_ret <| qA ?_
  exact yB (vs := [.int .i64 (0 : Int), .int .i64 (0 : Int), .agg ⟨[.slice none ([] : List Int).length (0), .slice none ([] : List Int).length (0)]⟩, .int .i64 ML]) hS rfl (by exact ⟨Z6 rfl, Z6 rfl, Jp 7 ([.slice none ([] : List Int).length (0), .slice none ([] : List Int).length (0)]) rfl MU rfl rfl rfl Tryd.isAgg121 Tryd.sizeOf121, Z6 rfl, trivial⟩) (hret (0 : Int) (0 : Int) none (0) ([] : List Int) Nx none (0) ([] : List Int) Ny ML Me Ml _ (qU hM) M7 M8 MG (hS.st.pick [1, 0, 2, 3, 4] (by kernel_rfl)))
 ·refine wp_skip ?_
  refine qc <| qk <| sM hS rfl fun hS => qK hS rfl Tryd.call61 (zY hG K (qr.mk (qj.mk LF.r_.S_ Me) LF.out_ LF.limit_) (5 : Int) (1 : Int) LX LG LR Ml LY LZ LH L3 MG L4 (hS.st.part 3 [0, 1, 2, 3, 4, 5] (by kernel_rfl)) (qx hM) (fun LJ MM Mf Mm w hM MH hst => qJ hS.ev hst.appF rfl fun hS => ?_))
  replace hS : Ss _ _ _ H [LG, Mm, LH, LV, LU, LT] F _ _ := hS
  refine sM hS rfl fun hS => sO hS (ex rfl rfl) rfl fun hS => sO hS (ex rfl rfl) rfl fun hS => sA hS rfl fun hS => sA hS rfl fun hS => qz <| wp_seq <| qk <| sM hS rfl fun hS => sB hS rfl fun hS => qz <| qy hS rfl hM (fun Nn hM => ?_) (fun Nn hM => ?_)
  ·refine wp_seq ?_
   refine zI <| sO hS (Zq ([.slice none 0 0, .slice none 0 0]) [(0, 1), (1, 1)] Tryd.zeroValue121 Tryd.runUnderlying121 (by intro w; simp [Tryd.sizeOf45]) rfl rfl) rfl fun hS => sM hS rfl fun hS => sA hS rfl fun hS => sA hS rfl fun hS => u5 5 ([.slice none 0 0, .slice none 0 0]) ([.slice none 0 0, .slice none 0 0]) hS rfl rfl LN rfl rfl Tryd.sizeOf121 (by simp [Value.oneCell']) (Nat.le_of_ble_eq_true rfl) rfl fun w NV MV hS => ?_
   obtain ⟨Nz, M9, hS⟩ := hS.nilV 3 (ci .i64) 1
   obtain ⟨NA, Na, hS⟩ := hS.nilV 3 (ci .i64) 1
   refine sA hS rfl fun hS => qz <| wp_ret <| qA ?_
   exact yB (vs := [.int .i64 (0 : Int), .int .i64 (0 : Int), .agg ⟨[.slice none ([] : List Int).length (0), .slice none ([] : List Int).length (0)]⟩, .int .i64 MM]) hS rfl (by exact ⟨Z6 rfl, Z6 rfl, Jp 7 ([.slice none ([] : List Int).length (0), .slice none ([] : List Int).length (0)]) rfl MV rfl rfl rfl Tryd.isAgg121 Tryd.sizeOf121, Z6 rfl, trivial⟩) (hret (0 : Int) (0 : Int) none (0) ([] : List Int) Nz none (0) ([] : List Int) NA MM Mf Mm _ (qU hM) M9 Na MH (hS.st.pick [1, 0, 2, 3, 4] (by kernel_rfl)))
  ·refine wp_skip ?_
   refine qc <| qk <| sM hS rfl fun hS => qK hS rfl Tryd.call61 (zY hG K (qr.mk (qj.mk LF.r_.S_ Mf) LF.out_ LF.limit_) (4 : Int) (4 : Int) LX LG LR Mm LY LZ LH L3 MH L4 (hS.st.part 3 [0, 1, 2, 3, 4, 5] (by kernel_rfl)) (qx hM) (fun MN MO L1 L5 w hM Mq hst => qJ hS.ev hst.appF rfl fun hS => ?_))
   replace hS : Ss _ _ _ H [LG, L5, LH, LV, LU, LT] F _ _ := hS
   refine sM hS rfl fun hS => sO hS (ex rfl rfl) rfl fun hS => sO hS (ex rfl rfl) rfl fun hS => sA hS rfl fun hS => sA hS rfl fun hS => qz <| wp_seq <| qk <| sM hS rfl fun hS => sB hS rfl fun hS => qz <| qy hS rfl hM (fun No hM => ?_) (fun No hM => ?_)
   ·refine wp_seq ?_
    refine zI <| sO hS (Zq ([.slice none 0 0, .slice none 0 0]) [(0, 1), (1, 1)] Tryd.zeroValue121 Tryd.runUnderlying121 (by intro w; simp [Tryd.sizeOf45]) rfl rfl) rfl fun hS => sM hS rfl fun hS => sA hS rfl fun hS => sA hS rfl fun hS => u5 5 ([.slice none 0 0, .slice none 0 0]) ([.slice none 0 0, .slice none 0 0]) hS rfl rfl LN rfl rfl Tryd.sizeOf121 (by simp [Value.oneCell']) (Nat.le_of_ble_eq_true rfl) rfl fun w NW MW hS => ?_
    obtain ⟨NB, Nb, hS⟩ := hS.nilV 3 (ci .i64) 1
    obtain ⟨NC, Nc, hS⟩ := hS.nilV 3 (ci .i64) 1
    refine sA hS rfl fun hS => qz <| wp_ret <| qA ?_
    exact yB (vs := [.int .i64 (0 : Int), .int .i64 (0 : Int), .agg ⟨[.slice none ([] : List Int).length (0), .slice none ([] : List Int).length (0)]⟩, .int .i64 MO]) hS rfl (by exact ⟨Z6 rfl, Z6 rfl, Jp 7 ([.slice none ([] : List Int).length (0), .slice none ([] : List Int).length (0)]) rfl MW rfl rfl rfl Tryd.isAgg121 Tryd.sizeOf121, Z6 rfl, trivial⟩) (hret (0 : Int) (0 : Int) none (0) ([] : List Int) NB none (0) ([] : List Int) NC MO L1 L5 _ (qU hM) Nb Nc Mq (hS.st.pick [1, 0, 2, 3, 4] (by kernel_rfl)))
   ·refine wp_skip ?_
    refine qc <| wp_seq <| qk <| sM hS rfl fun hS => sB hS rfl fun hS => sM hS rfl fun hS => yw 2 false 49 (b := (decide (LI > (286 : Int)))) (r := (decide (LJ > (30 : Int)))) hS rfl rfl rfl rfl rfl rfl rfl (fun hb a w hS K hK => ?_) rfl fun a w hS => ?_
    ·refine zK hS rfl rfl rfl hb (mv rfl) rfl fun a w hS => ?_
     refine zK hS rfl rfl rfl hb (yZ rfl rfl rfl) rfl fun a w hS => ?_
     exact zd (hK _ _ (hS.up 2 rfl rfl))
    refine qz <| qy hS rfl hM (fun Np hM => ?_) (fun Np hM => ?_)
    ·refine wp_seq ?_
     refine zI <| sO hS (Zq ([.slice none 0 0, .slice none 0 0]) [(0, 1), (1, 1)] Tryd.zeroValue121 Tryd.runUnderlying121 (by intro w; simp [Tryd.sizeOf45]) rfl rfl) rfl fun hS => sA hS rfl fun hS => sA hS rfl fun hS => u5 5 ([.slice none 0 0, .slice none 0 0]) ([.slice none 0 0, .slice none 0 0]) hS rfl rfl LN rfl rfl Tryd.sizeOf121 (by simp [Value.oneCell']) (Nat.le_of_ble_eq_true rfl) rfl fun w NX MX hS => ?_
     obtain ⟨ND, Nd, hS⟩ := hS.nilV 3 (ci .i64) 1
     obtain ⟨NE, Nf, hS⟩ := hS.nilV 3 (ci .i64) 1
     refine sA hS rfl fun hS => qz <| wp_ret <| qA ?_
     exact yB (vs := [.int .i64 (0 : Int), .int .i64 (0 : Int), .agg ⟨[.slice none ([] : List Int).length (0), .slice none ([] : List Int).length (0)]⟩, .int .i64 (3 : Int)]) hS rfl (by exact ⟨Z6 rfl, Z6 rfl, Jp 7 ([.slice none ([] : List Int).length (0), .slice none ([] : List Int).length (0)]) rfl MX rfl rfl rfl Tryd.isAgg121 Tryd.sizeOf121, Z6 rfl, trivial⟩) (hret (0 : Int) (0 : Int) none (0) ([] : List Int) ND none (0) ([] : List Int) NE (3 : Int) L1 L5 _ (qU hM) Nd Nf Mq (hS.st.pick [1, 0, 2, 3, 4] (by kernel_rfl)))
    ·refine wp_skip ?_
     refine qc <| wp_seq <| zI ?_
     obtain ⟨Nt, hM⟩ := qE hM
     refine Ui (g := (ci .i64)) (m := (19 : Int)) (0 : Int) hS rfl rfl (by simp) Tryd.runUnderlying45 X.el3 (fun w => ⟨_, Tryd.zeroValue3 w, rfl⟩) (fun _ => rfl) rfl rfl Nt rfl fun Nu w LD LE MB hz Ng hS => ?_
     have hM := qB hz hM; clear hz
     refine sA hS rfl fun hS => qz <| qk <| qK hS rfl Tryd.call104 (Qt hG K  (hS.st.part 0 [0, 1, 2, 3, 4, 5, 6] (by kernel_rfl)) (qx hM) (fun Nv Nw Mn w hM MI hst => qJ hS.ev hst.appF rfl fun hS => ?_))
     replace hS : Ss _ _ _ H [Mn, MB, LG, L5, LH, LV, LU, LT] F _ _ := hS
     refine sA hS rfl fun hS => qz <| qk <| sA hS rfl fun hS => qz <| zx (fun a w => ∃ (LQ : Int) (L0 : qm) (LC : (List Int)) (L8 : qm) (LW : Bool), Ss 97 [] [(4, qO Mi 0), (6, .int .i64 LI), (8, .int .i64 LJ), (12, .slice LD LC.length LE), (14, .bool LW)] H [LG, L0, LH, LT, LU, LV, L8] F a w ∧ (xZ L0 LR ([yb LF.r_.S_, .int .i64 LQ]) 82) ∧ (xh 3 (ci .i64) 1 LD LC LE L8) ∧ (q7.j2 K LI LJ LQ LC LW).wp kr kp) (fun NS M6 => ?_) ?_
     ·refine wp_seq ?_
      refine zI <| sA hS rfl fun hS => qz <| xJ <| zv (fun MK a w => ∃ (LP : Int) (L6 : qm) (LO : (List Int)) (L7 : qm) (LM : Bool) (L9 : Int), Ss 97 [] [(0, qO LX 0), (4, qO Mi 0), (6, .int .i64 LI), (8, .int .i64 LJ), (10, .int .i64 MN), (12, .slice LD LO.length LE), (13, .slice Nv ([(16 : Int), (17 : Int), (18 : Int), (0 : Int), (8 : Int), (7 : Int), (9 : Int), (6 : Int), (10 : Int), (5 : Int), (11 : Int), (4 : Int), (12 : Int), (3 : Int), (13 : Int), (2 : Int), (14 : Int), (1 : Int), (15 : Int)] : List Int).length Nw), (14, .bool LM), (15, .int .i64 L9)] H [LG, L6, LH, LT, LU, LV, L7, Mn] F a w ∧ (xZ L6 LR ([yb LF.r_.S_, .int .i64 LP]) 82) ∧ (xh 3 (ci .i64) 1 LD LO LE L7) ∧ (q7.l1 K LF LI LJ MN MK LP LO LM L9).wp kr kp) K ?_ ?_ ?_
      ·exact ⟨L1, L5, Nu, MB, false, (0 : Int), hS.to [2, 3, 4, 7, 6, 5, 1, 0] (by kernel_rfl) ⟨rfl, rfl, rfl, rfl, rfl, rfl, rfl, rfl, rfl, trivial⟩, Mq, Ng, hM⟩
      ·intro a w hI; obtain ⟨_, _, _, _, _, _, _, _, _, hM⟩ := hI; exact zr hM
      ·intro MK a w hI NR M5
       obtain ⟨LP, L6, LO, L7, LM, L9, hS, Mr, Ma, hM⟩ := hI
       rw [q7.l1] at hM
       refine wp_seq <| qk <| sM hS rfl fun hS => sM hS rfl fun hS => sB hS rfl fun hS => qz <| qy hS rfl hM (fun Nq hM => ?_) (fun Nq hM => ?_)
       ·refine wp_skip ?_
        refine qc <| wp_seq <| xJ <| qk <| sM hS rfl fun hS => qK hS rfl Tryd.call61 (zY hG K (qr.mk (qj.mk LF.r_.S_ LP) LF.out_ LF.limit_) (3 : Int) (0 : Int) LX LG LR L6 LY LZ LH L3 Mr L4 (hS.st.part 3 [0, 1, 2, 3, 4, 5, 6, 7] (by kernel_rfl)) (qx hM) (fun Mj MP Mg Mp w hM MJ hst => qJ hS.ev hst.appF rfl fun hS => ?_))
        replace hS : Ss _ _ _ H [LG, Mp, LH, LT, LU, LV, L7, Mn] F _ _ := hS
        refine sM hS rfl fun hS => sO hS (ex rfl rfl) rfl fun hS => sO hS (ex rfl rfl) rfl fun hS => sA hS rfl fun hS => sA hS rfl fun hS => qz <| wp_seq <| qk <| sM hS rfl fun hS => sB hS rfl fun hS => qz <| qy hS rfl hM (fun Nr hM => ?_) (fun Nr hM => ?_)
        ·refine wp_seq ?_
         refine zI <| sO hS (Zq ([.slice none 0 0, .slice none 0 0]) [(0, 1), (1, 1)] Tryd.zeroValue121 Tryd.runUnderlying121 (by intro w; simp [Tryd.sizeOf45]) rfl rfl) rfl fun hS => sM hS rfl fun hS => sA hS rfl fun hS => sA hS rfl fun hS => u5 3 ([.slice none 0 0, .slice none 0 0]) ([.slice none 0 0, .slice none 0 0]) hS rfl rfl LN rfl rfl Tryd.sizeOf121 (by simp [Value.oneCell']) (Nat.le_of_ble_eq_true rfl) rfl fun w NY MY hS => ?_
         obtain ⟨NF, Nh, hS⟩ := hS.nilV 3 (ci .i64) 1
         obtain ⟨NG, Ni, hS⟩ := hS.nilV 3 (ci .i64) 1
         refine sA hS rfl fun hS => qz <| wp_ret <| qA (z3 (qA (qA (z3 (qA ?_)))))
         exact yB (vs := [.int .i64 (0 : Int), .int .i64 (0 : Int), .agg ⟨[.slice none ([] : List Int).length (0), .slice none ([] : List Int).length (0)]⟩, .int .i64 MP]) hS rfl (by exact ⟨Z6 rfl, Z6 rfl, Jp 5 ([.slice none ([] : List Int).length (0), .slice none ([] : List Int).length (0)]) rfl MY rfl rfl rfl Tryd.isAgg121 Tryd.sizeOf121, Z6 rfl, trivial⟩) (hret (0 : Int) (0 : Int) none (0) ([] : List Int) NF none (0) ([] : List Int) NG MP Mg Mp _ (qU hM) Nh Ni MJ (hS.st.pick [1, 0, 2, 3, 4] (by kernel_rfl)))
        ·refine wp_skip ?_
         refine qc <| qk <| sM hS rfl fun hS => sM hS rfl fun hS => sM hS rfl fun hS => ?_
         obtain ⟨Mt, hM⟩ := qE hM
         refine sO hS (x6 rfl rfl Tryd.runUnderlying45 Tryd.sizeOf3 (MI.rd (i := 7) rfl) (fun _ => rfl) rfl Mt) rfl fun hS => sO hS (x9 rfl (MI.rd (i := 7) rfl) (fun _ => rfl) Mt rfl Tryd.isAgg3) rfl fun hS => sM hS rfl fun hS => ?_
         obtain ⟨Mu, hM⟩ := qE hM
         refine sO hS (x6 rfl rfl Tryd.runUnderlying45 Tryd.sizeOf3 (Ma.rd (i := 6) rfl) (fun _ => rfl) rfl Mu) rfl fun hS => Xj (i := (rd ([(16 : Int), (17 : Int), (18 : Int), (0 : Int), (8 : Int), (7 : Int), (9 : Int), (6 : Int), (10 : Int), (5 : Int), (11 : Int), (4 : Int), (12 : Int), (3 : Int), (13 : Int), (2 : Int), (14 : Int), (1 : Int), (15 : Int)] : List Int) L9)) (sz := 1) 6 0 (Mj) hS rfl rfl Ma rfl Tryd.sizeOf3 (xG Mj) (fun _ => rfl) Mu rfl rfl fun Md w NH hz Mv Nj hS => ?_
         have hM := qB hz hM; clear hz
         replace hS := hS.re 12 (u := .slice LD LO.length LE) (v := .slice LD Md.length LE) rfl (by rw [Mv])
         replace hS := hS.re 70 (u := .slice LD LO.length LE) (v := .slice LD Md.length LE) rfl (by rw [Mv])
         refine qz <| zI <| sM hS rfl fun hS => sM hS rfl fun hS => yw 2 false 78 (b := LM) (r := (decide (Mj > (0 : Int)))) hS rfl rfl rfl rfl rfl rfl rfl (fun hb a w hS K hK => ?_) rfl fun a w hS => ?_
         ·refine zK hS rfl rfl rfl hb (mv rfl) rfl fun a w hS => ?_
          refine zK hS rfl rfl rfl hb (yZ rfl rfl rfl) rfl fun a w hS => ?_
          exact zd (hK _ _ (hS.up 2 rfl rfl))
         refine zH (v := Value.bool) (x0 := (LM || (decide (Mj > (0 : Int))))) hS (xv rfl) rfl fun Mw a w hz hS => ?_
         have hM := qB hz hM; clear hz
         refine zd <| zz (qc ?_)
         refine zI <| sM hS rfl fun hS => sB hS rfl fun hS => zH (v := Value.int .i64) (x0 := (qi (L9 + (1 : Int)))) hS (xv rfl) rfl fun NL a w hz hS => ?_
         have hM := qB hz hM; clear hz
         refine zd <| qc ?_
         exact M5 _ _ ⟨Mg, Mp, Md, NH, Mw, NL, hS.to [0, 1, 2, 3, 4, 5, 6, 7] (by kernel_rfl) ⟨rfl, rfl, rfl, rfl, rfl, rfl, rfl, rfl, rfl, trivial⟩, MJ, Nj, hM⟩
       ·refine wp_exit ?_
        refine qC (qC (q9 (qc ?_)))
        exact M6 _ _ ⟨LP, L6, LO, L7, LM, hS.to [0, 1, 2, 3, 4, 5, 6] (by kernel_rfl) ⟨rfl, rfl, rfl, rfl, rfl, trivial⟩, Mr, Ma, hM⟩
     ·intro a w hI
      obtain ⟨LQ, L0, LC, L8, LW, hS, Ms, Mb, hM⟩ := hI
      rw [q7.j2] at hM
      refine qk <| sM hS rfl fun hS => qK hS rfl Tryd.call63 (yl hG K LC LD LE (Mb.rdF (i := 6) rfl) (Mb.cap (fun _ => rfl) rfl) (hS.st.part 0 [0, 1, 2, 3, 4, 5, 6] (by kernel_rfl)) (qx hM) (fun LK LL LB MC NM w hM NK hst => qJ hS.ev hst.appF rfl fun hS => ?_))
      replace hS : Ss _ _ _ H [MC, LG, L0, LH, LT, LU, LV, L8] F _ _ := hS
      refine sM hS rfl fun hS => sO hS (ex rfl rfl) rfl fun hS => sO hS (ex rfl rfl) rfl fun hS => QJ ([.slice none 0 0, .slice none 0 0]) hS Tryd.zeroValue121 rfl rfl fun w NT NZ MZ hS => ?_
      obtain ⟨N0, NP, hS⟩ := hS.nilV 3 (ci .i64) 1
      obtain ⟨N1, NQ, hS⟩ := hS.nilV 3 (ci .i64) 1
      refine u5 2 ([.slice LD LC.length LE, .slice LK LB.length LL]) ([.slice LD LC.length LE, .slice LK LB.length LL]) hS rfl rfl MZ rfl rfl Tryd.sizeOf121 (by simp [Value.oneCell']) (Nat.le_of_ble_eq_true rfl) rfl fun w N2 M0 hS => sA hS rfl fun hS => qz <| wp_seq <| qk <| sM hS rfl fun hS => sO hS (un rfl rfl) rfl fun hS => sM hS rfl fun hS => yw 2 false 89 (b := (!NM)) (r := (!LW)) hS rfl rfl rfl rfl rfl rfl rfl (fun hb a w hS K hK => ?_) rfl fun a w hS => ?_
      ·refine zK hS rfl rfl rfl hb (mv rfl) rfl fun a w hS => ?_
       refine zK hS rfl rfl rfl hb (un rfl rfl) rfl fun a w hS => ?_
       exact zd (hK _ _ (hS.up 2 rfl rfl))
      refine qz <| qy hS rfl hM (fun Ns hM => ?_) (fun Ns hM => ?_)
      ·refine wp_seq ?_
       refine zI <| sO hS (Zq ([.slice none 0 0, .slice none 0 0]) [(0, 1), (1, 1)] Tryd.zeroValue121 Tryd.runUnderlying121 (by intro w; simp [Tryd.sizeOf45]) rfl rfl) rfl fun hS => sA hS rfl fun hS => sA hS rfl fun hS => u5 7 ([.slice none 0 0, .slice none 0 0]) ([.slice none 0 0, .slice none 0 0]) hS rfl rfl LN rfl rfl Tryd.sizeOf121 (by simp [Value.oneCell']) (Nat.le_of_ble_eq_true rfl) rfl fun w N3 M3 hS => ?_
       obtain ⟨NI, Nk, hS⟩ := hS.nilV 3 (ci .i64) 1
       obtain ⟨NJ, Nl, hS⟩ := hS.nilV 3 (ci .i64) 1
       refine sA hS rfl fun hS => qz <| wp_ret <| qA ?_
       exact yB (vs := [.int .i64 (0 : Int), .int .i64 (0 : Int), .agg ⟨[.slice none ([] : List Int).length (0), .slice none ([] : List Int).length (0)]⟩, .int .i64 (3 : Int)]) hS rfl (by exact ⟨Z6 rfl, Z6 rfl, Jp 9 ([.slice none ([] : List Int).length (0), .slice none ([] : List Int).length (0)]) rfl M3 rfl rfl rfl Tryd.isAgg121 Tryd.sizeOf121, Z6 rfl, trivial⟩) (hret (0 : Int) (0 : Int) none (0) ([] : List Int) NI none (0) ([] : List Int) NJ (3 : Int) LQ L0 _ (qU hM) Nk Nl Ms (hS.st.pick [1, 0, 6, 7, 8] (by kernel_rfl)))
      ·refine wp_skip ?_
       refine qc <| wp_seq <| zh (vals := [some (.int .i64 LI), some (.int .i64 LJ), some (.agg ⟨[.slice LD LC.length LE, .slice LK LB.length LL]⟩), some (.int .i64 LI), some (.int .i64 LJ), none, none]) hS xH rfl ?_
       intro l w ho hcl hA hst
       refine jQ hA hst ho hcl xQ xI 5 [0, 1, 2, 3, 4] rfl rfl rfl rfl rfl (by exact ⟨nM rfl, nM rfl, nQ rfl (by exact qY (vT 2 rfl M0 rfl ([.slice LD LC.length LE, .slice LK LB.length LL]) rfl rfl Tryd.isAgg121 Tryd.sizeOf121) rfl), nA rfl, nA rfl, trivial⟩) fun D l a w ho hcl hav hpre hm hE hk hA hst => ?_
       have hS := (Ss.mk hE hst).env2 (e' := [(4, qO Mi 0), (96, .agg ⟨[.slice LD LC.length LE, .slice LK LB.length LL]⟩)]) ⟨rfl, rfl, trivial⟩
       refine zi rfl <| u5 7 ([.slice LD LC.length LE, .slice LK LB.length LL]) ([.slice LD LC.length LE, .slice LK LB.length LL]) hS rfl rfl LN rfl rfl Tryd.sizeOf121 (by simp [Value.oneCell']) (Nat.le_of_ble_eq_true rfl) rfl fun w N4 M4 hS => qz ?_
       replace hst := hS.st
       obtain ⟨hcl, hmust, hav2, hA⟩ := Jy (vals' := [some (.int .i64 LI), some (.int .i64 LJ), some (.agg ⟨[.slice LD LC.length LE, .slice LK LB.length LL]⟩), some (.int .i64 LI), some (.int .i64 LJ), some undef, some (.int .i64 (0 : Int))]) 5 [(0, 5), (1, 5), (2, 5), (3, 5), (4, 5)] hA hcl hav hm hpre rfl rfl rfl rfl rfl
       clear hm hav
       refine yo hA hst ho hcl hmust [6] rfl rfl rfl (by exact ⟨nA rfl, trivial⟩) fun a w hS => ?_
       replace hS := hS.env2 (e' := [(2, .int .i64 LI), (3, .int .i64 LJ), (4, qO Mi 0), (5, .int .i64 (0 : Int))]) ⟨rfl, rfl, rfl, rfl, trivial⟩
       refine qc <| wp_ret ?_
       exact yB (vs := [.int .i64 LI, .int .i64 LJ, .agg ⟨[.slice LD LC.length LE, .slice LK LB.length LL]⟩, .int .i64 (0 : Int)]) hS rfl (by exact ⟨Z6 rfl, Z6 rfl, Jp 7 ([.slice LD LC.length LE, .slice LK LB.length LL]) rfl M4 rfl rfl rfl Tryd.isAgg121 Tryd.sizeOf121, Z6 rfl, trivial⟩) (hret LI LJ LD LE LC L8 LK LL LB MC (0 : Int) LQ L0 _ (qU hM) Mb NK Ms (hS.st.pick [10, 3, 4, 5, 6] (by kernel_rfl)))
end Go.TrydS

set_option maxRecDepth 100000
namespace Go.TrydS
open Go Go.Sl Go.Mo Go.Proofs
attribute [local irreducible] qN.wp
theorem uz {H : xU} {F : List qm} {w : World} {R : Ending → World → Prop} {kr : ((List Int) × Int × Int) → Prop} {kp : Value → Prop} (hG : Gl H) (K : Nat) (LC : qr) (LG : Int) (LB : zp) (LF : Nat) (LH : qm) (LL : Nat) (Mk : qm) (L7 : Option Addr) (L8 : Nat) (LI : qm) (LS : Option Addr) (LV : Nat) (LT : Option Addr) (LW : Nat) (L6 : xZ LH LF ([qO LL 0, .slice L7 LC.out_.length L8, .int .i64 LC.limit_]) 84) (ME : xZ Mk LL ([yb LC.r_.S_, .int .i64 LC.r_.At_]) 82) (Mc : xh 5 (ci .u8) 1 L7 LC.out_ L8 LI) (M4 : jn H [] F (ci .i64) LS LB.l_) (MY : LB.l_.length ≤ LV) (M5 : jn H [] F (ci .i64) LT LB.codes_) (MZ : LB.codes_.length ≤ LW)
    (hS : St w H [LH, Mk, LI] F) (hm : (qH.m K LC LG LB).wp kr kp)
    (hret : ∀ (Mv : Option Addr) (Mw : Nat) (Mr : (List Int)) (MA : qm) (MD : Int) (Me : Int) (MB : qm) (w : World), kr (Mr, MD, Me) → (xh 3 (ci .i64) 1 Mv Mr Mw MA) → (xZ MB LL ([yb LC.r_.S_, .int .i64 Me]) 82) → St w H [MA, LH, MB, LI] F → R (.returned (.tuple ⟨[.slice Mv Mr.length Mw, .int .i64 MD]⟩)) w) :
    Calls Tryd.prog 91 ⟨[qO LF 0, .int .i64 LG, .agg ⟨[.slice LS LB.l_.length LV, .slice LT LB.codes_.length LW]⟩]⟩ w R := by
 refine enter Tryd.func91 rfl Tryd.ntmps91 rfl hS fun a w hS => ?_
 have hM := hm; clear hm
 rw [qH.m] at hM
 refine qk <| bx ([.slice LS LB.l_.length LV, .slice LT LB.codes_.length LW]) hS rfl rfl rfl fun w LR LY Ml hS => sA hS rfl fun hS => ?_
 obtain ⟨NC, Nu, hS⟩ := hS.nilV 3 (ci .i64) 1
 refine sA hS rfl fun hS => qz <| qk <| sA hS rfl fun hS => ?_
 obtain ⟨Nc, MG, hS⟩ := hS.nilV 3 (ci .i64) 1
 refine qz <| wp_seq <| xJ <| zv (fun Mi a w => ∃ (LP : Int) (L9 : qm) (LU : Option Addr) (LX : Nat) (LE : (List Int)) (LN : qm), Ss 87 [] [(0, qO LF 0), (1, .int .i64 LG), (5, qO LR 0), (8, .slice LU LE.length LX)] H [LH, L9, LI, LY, LN] F a w ∧ (xZ L9 LL ([yb LC.r_.S_, .int .i64 LP]) 82) ∧ (xh 3 (ci .i64) 1 LU LE LX LN) ∧ (qH.l1 K LC LG LB Mi LP LE).wp kr kp) K ?_ ?_ ?_
 ·exact ⟨LC.r_.At_, Mk, none, 0, ([] : List Int), Nc, hS.to [3, 4, 5, 2, 0] (by kernel_rfl) ⟨rfl, rfl, rfl, rfl, trivial⟩, ME, MG, hM⟩
 ·intro a w hI; obtain ⟨_, _, _, _, _, _, _, _, _, hM⟩ := hI; exact zr hM
 ·intro Mi a w hI Nz Mn
  obtain ⟨LP, L9, LU, LX, LE, LN, hS, Mm, L1, hM⟩ := hI
  rw [qH.l1] at hM
  refine wp_seq <| qk <| sM hS rfl fun hS => sO hS (ya rfl Tryd.runUnderlying45) rfl fun hS => sM hS rfl fun hS => sB hS rfl fun hS => qz <| qy hS rfl hM (fun MP hM => ?_) (fun MP hM => ?_)
  ·refine wp_skip ?_
   refine qc <| xJ <| wp_seq <| zh (vals := [some (qO LR 0), some (.slice LS LB.l_.length LV), some (qO LR 1), some (.slice LT LB.codes_.length LW), some (qO LF 0), some (qO LF 0), some (qO LF 0), some (qO LL 0), none, none, none, none, none, none]) hS xH rfl ?_
   intro l w ho hcl hA hst
   refine jQ hA hst ho hcl xQ xI 8 [0, 1, 2, 3, 4, 5, 6, 7] rfl rfl rfl rfl rfl (by exact ⟨nQ rfl (by exact qY (xr rfl Tryd.runUnderlying121 rfl Tryd.sizeOf45 rfl) rfl), nQ rfl (by exact qY (xW 3 rfl Ml rfl rfl Tryd.isAgg45) rfl), nQ rfl (by exact qY (xr rfl Tryd.runUnderlying121 rfl Tryd.sizeOf45 rfl) rfl), nQ rfl (by exact qY (xW 3 rfl Ml rfl rfl Tryd.isAgg45) rfl), nM rfl, nQ rfl (by exact qY (yu rfl) rfl), nQ rfl (by exact qY (xr rfl Tryd.runUnderlying84 rfl Tryd.sizeOf80 rfl) rfl), nQ rfl (by exact qY (xW 0 rfl L6 rfl rfl Tryd.isAgg80) rfl), trivial⟩) fun D l a w ho hcl hav hpre hm hE hk hA hst => ?_
   have hS := (Ss.mk hE hst).env2 (e' := [(20, .slice LS LB.l_.length LV), (22, .slice LT LB.codes_.length LW), (26, qO LL 0)]) ⟨rfl, rfl, rfl, trivial⟩
   refine zi rfl <| qK hS rfl Tryd.call88 (jp hG K LB.l_ LB.codes_ (qj.mk LC.r_.S_ LP) LS LV LT LW LL L9 (M4.app _) MY (M5.app _) MZ Mm (hS.st.part 1 [1, 0, 2, 3, 4] (by kernel_rfl)) (qx hM) (fun LO L4 LM LZ w hM L3 hst => qJ hS.ev hst.appF rfl fun hS => ?_))
   replace hS : Ss _ _ _ H [LZ, LH, LI, LY, LN] F _ _ := hS
   refine qz ?_
   replace hst := hS.st
   obtain ⟨hcl, hmust, hav2, hA⟩ := dn (vals' := [some (qO LR 0), some (.slice LS LB.l_.length LV), some (qO LR 1), some (.slice LT LB.codes_.length LW), some (qO LF 0), some (qO LF 0), some (qO LF 0), some (qO LL 0), some (.tuple ⟨[.int .i64 LO, .int .i64 L4]⟩), some (.tuple ⟨[.int .i64 LO, .int .i64 L4]⟩), some (.int .i64 LO), some (.int .i64 L4), some (.int .i64 LO), some (.int .i64 L4)]) 8 [(1, 8), (3, 8), (7, 8), (0, 1), (2, 3), (6, 7), (5, 6), (4, 5)] hA hcl hav hm hpre hk rfl rfl rfl rfl rfl rfl rfl
   clear hm hav
   refine yo hA hst ho hcl hmust [9, 10, 11, 12, 13] rfl rfl rfl (by exact ⟨nM rfl, nQ rfl (by exact qY (ex rfl rfl) rfl), nQ rfl (by exact qY (ex rfl rfl) rfl), nA rfl, nA rfl, trivial⟩) fun a w hS => ?_
   replace hS := hS.env2 (e' := [(0, qO LF 0), (1, .int .i64 LG), (5, qO LR 0), (8, .slice LU LE.length LX), (9, .int .i64 LO), (10, .int .i64 L4)]) ⟨rfl, rfl, rfl, rfl, rfl, rfl, trivial⟩
   refine qc <| wp_seq <| qk <| sM hS rfl fun hS => sB hS rfl fun hS => qz <| qy hS rfl hM (fun MQ hM => ?_) (fun MQ hM => ?_)
   ·refine wp_seq ?_
    refine zI <| sM hS rfl fun hS => sA hS rfl fun hS => ?_
    obtain ⟨Nd, MH, hS⟩ := hS.nilV 3 (ci .i64) 1
    refine sA hS rfl fun hS => qz <| wp_ret <| qA (z3 (qA (z3 (qA ?_))))
    exact zm (rs := [6, 7]) hS rfl rfl (hret none (0) ([] : List Int) Nd L4 LM LZ _ (qU hM) MH L3 (hS.st.pick [0, 2, 1, 3] (by kernel_rfl)))
   ·refine wp_skip ?_
    refine qc <| wp_seq <| qk <| sM hS rfl fun hS => sB hS rfl fun hS => qz <| qy hS rfl hM (fun MR hM => ?_) (fun MR hM => ?_)
    ·refine wp_seq ?_
     refine zI <| sM hS rfl fun hS => sM hS rfl fun hS => Xs (g := (ci .i64)) ([LO] : List Int) [.int .i64 LO] hS Tryd.runUnderlying45 Tryd.sizeOf3 X.el3 rfl rfl rfl (by simp [Value.cells]) rfl rfl rfl rfl rfl fun w Nv NA ND MI hS => ?_
     obtain ⟨M0, hM⟩ := qE hM
     refine Yk (ys := ([LO] : List Int)) 5 hS rfl rfl L1 rfl (MI.rd (i := 0) rfl) Tryd.runUnderlying45 Tryd.runUnderlying45 X.el3 (fun _ => rfl) rfl xG M0 rfl fun M6 w M8 Na Nf hz MJ hS => ?_
     have hM := qB hz hM; clear hz
     refine sA hS rfl fun hS => qz <| wp_exit <| qC (q9 (qc ?_))
     exact Mn _ _ ⟨LM, LZ, M8, Na, M6, Nf, hS.to [2, 1, 3, 4, 5] (by kernel_rfl) ⟨rfl, rfl, rfl, rfl, trivial⟩, L3, MJ, hM⟩
    ·refine wp_skip ?_
     refine qc <| qk <| sA hS rfl fun hS => qz <| qk <| sA hS rfl fun hS => qz <| zx (fun a w => ∃ (LK : Int) (L0 : qm) (L5 : Int) (LD : Int) (LJ : Int), Ss 87 [] [(0, qO LF 0), (1, .int .i64 LG), (5, qO LR 0), (8, .slice LU LE.length LX), (10, .int .i64 L5), (11, .int .i64 LD), (12, .int .i64 LJ)] H [LH, L0, LI, LY, LN] F a w ∧ (xZ L0 LL ([yb LC.r_.S_, .int .i64 LK]) 82) ∧ (qH.j2 K (qH.l1 K LC LG LB Mi) LG LE LK L5 LD LJ).wp kr kp) (fun Nx Mb => ?_) ?_
     ·refine wp_seq ?_
      refine zI <| sM hS rfl fun hS => qz <| xJ <| qk <| sB hS rfl fun hS => zH (v := Value.bool) (x0 := (LO == (16 : Int))) hS (xv rfl) rfl fun NF a w hz hS => ?_
      have hM := qB hz hM; clear hz
      refine qz <| qy hS rfl hM (fun MS hM => ?_) (fun MS hM => ?_)
      ·refine wp_seq ?_
       refine qk <| sM hS rfl fun hS => sO hS (ya rfl Tryd.runUnderlying45) rfl fun hS => sB hS rfl fun hS => qz <| qy hS rfl hM (fun MT hM => ?_) (fun MT hM => ?_)
       ·refine wp_seq ?_
        refine zI <| sA hS rfl fun hS => ?_
        obtain ⟨Ng, MK, hS⟩ := hS.nilV 3 (ci .i64) 1
        refine sA hS rfl fun hS => qz <| wp_ret <| qA (z3 (qA (z3 (qA (z3 (qA ?_))))))
        exact zm (rs := [6, 7]) hS rfl rfl (hret none (0) ([] : List Int) Ng (3 : Int) LM LZ _ (qU hM) MK L3 (hS.st.pick [0, 2, 1, 3] (by kernel_rfl)))
       ·refine wp_skip ?_
        refine qc <| qk <| sM hS rfl fun hS => sM hS rfl fun hS => sO hS (ya rfl Tryd.runUnderlying45) rfl fun hS => sB hS rfl fun hS => ?_
        obtain ⟨Mq, hM⟩ := qE hM
        refine sO hS (x6 rfl rfl Tryd.runUnderlying45 Tryd.sizeOf3 (L1.rd (i := 4) rfl) (fun _ => rfl) rfl Mq) rfl fun hS => sO hS (x9 rfl (L1.rd (i := 4) rfl) (fun _ => rfl) Mq rfl Tryd.isAgg3) rfl fun hS => zH (v := Value.int .i64) (x0 := (rd LE (qi ((LE.length : Int) - (1 : Int))))) hS (xv rfl) rfl fun Mj a w hz hS => ?_
        have hM := qB hz hM; clear hz
        refine qz <| zI <| sM hS rfl fun hS => qK hS rfl Tryd.call61 (zY hG K (qr.mk (qj.mk LC.r_.S_ LM) LC.out_ LC.limit_) (2 : Int) (3 : Int) LF LH LL LZ L7 L8 LI L6 L3 Mc (hS.st.part 3 [1, 0, 2, 3, 4] (by kernel_rfl)) (qx hM) (fun No Np Ms Mx w hM Nk hst => qJ hS.ev hst.appF rfl fun hS => ?_))
        replace hS : Ss _ _ _ H [LH, Mx, LI, LY, LN] F _ _ := hS
        refine sM hS rfl fun hS => sO hS (ex rfl rfl) rfl fun hS => sO hS (ex rfl rfl) rfl fun hS => sA hS rfl fun hS => sA hS rfl fun hS => zd <| zz (qc ?_)
        exact Mb _ _ ⟨Ms, Mx, Np, Mj, No, hS.to [0, 1, 2, 3, 4] (by kernel_rfl) ⟨rfl, rfl, rfl, rfl, rfl, rfl, rfl, trivial⟩, Nk, hM⟩
      ·refine wp_seq ?_
       refine zI <| sB hS rfl fun hS => zH (v := Value.bool) (x0 := (LO == (17 : Int))) hS (xv rfl) rfl fun NG a w hz hS => ?_
       have hM := qB hz hM; clear hz
       refine qz <| qy hS rfl hM (fun MU hM => ?_) (fun MU hM => ?_)
       ·refine zI ?_
        refine sM hS rfl fun hS => qK hS rfl Tryd.call61 (zY hG K (qr.mk (qj.mk LC.r_.S_ LM) LC.out_ LC.limit_) (3 : Int) (3 : Int) LF LH LL LZ L7 L8 LI L6 L3 Mc (hS.st.part 3 [1, 0, 2, 3, 4] (by kernel_rfl)) (qx hM) (fun Nq Nr Mt My w hM Nl hst => qJ hS.ev hst.appF rfl fun hS => ?_))
        replace hS : Ss _ _ _ H [LH, My, LI, LY, LN] F _ _ := hS
        refine sM hS rfl fun hS => sO hS (ex rfl rfl) rfl fun hS => sO hS (ex rfl rfl) rfl fun hS => sA hS rfl fun hS => sA hS rfl fun hS => zd <| zz (qc ?_)
        exact Mb _ _ ⟨Mt, My, Nr, (0 : Int), Nq, hS.to [0, 1, 2, 3, 4] (by kernel_rfl) ⟨rfl, rfl, rfl, rfl, rfl, rfl, rfl, trivial⟩, Nl, hM⟩
       ·refine zI ?_
        refine sM hS rfl fun hS => qK hS rfl Tryd.call61 (zY hG K (qr.mk (qj.mk LC.r_.S_ LM) LC.out_ LC.limit_) (7 : Int) (11 : Int) LF LH LL LZ L7 L8 LI L6 L3 Mc (hS.st.part 3 [1, 0, 2, 3, 4] (by kernel_rfl)) (qx hM) (fun Ns Nt Mu Mz w hM Nm hst => qJ hS.ev hst.appF rfl fun hS => ?_))
        replace hS : Ss _ _ _ H [LH, Mz, LI, LY, LN] F _ _ := hS
        refine sM hS rfl fun hS => sO hS (ex rfl rfl) rfl fun hS => sO hS (ex rfl rfl) rfl fun hS => sA hS rfl fun hS => sA hS rfl fun hS => zd <| zz (qc ?_)
        exact Mb _ _ ⟨Mu, Mz, Nt, (0 : Int), Ns, hS.to [0, 1, 2, 3, 4] (by kernel_rfl) ⟨rfl, rfl, rfl, rfl, rfl, rfl, rfl, trivial⟩, Nm, hM⟩
     ·intro a w hI
      obtain ⟨LK, L0, L5, LD, LJ, hS, Ma, hM⟩ := hI
      rw [qH.j2] at hM
      refine wp_seq <| qk <| sM hS rfl fun hS => sB hS rfl fun hS => qz <| qy hS rfl hM (fun MV hM => ?_) (fun MV hM => ?_)
      ·refine wp_seq ?_
       refine zI <| sM hS rfl fun hS => sA hS rfl fun hS => ?_
       obtain ⟨Nh, ML, hS⟩ := hS.nilV 3 (ci .i64) 1
       refine sA hS rfl fun hS => qz <| wp_ret <| qA (z3 (qA (z3 (qA ?_))))
       exact zm (rs := [6, 7]) hS rfl rfl (hret none (0) ([] : List Int) Nh L5 LK L0 _ (qU hM) ML Ma (hS.st.pick [0, 1, 2, 3] (by kernel_rfl)))
      ·refine wp_skip ?_
       refine qc <| wp_seq <| qk <| sM hS rfl fun hS => sM hS rfl fun hS => sM hS rfl fun hS => sO hS (ya rfl Tryd.runUnderlying45) rfl fun hS => sB hS rfl fun hS => sB hS rfl fun hS => qz <| qy hS rfl hM (fun MW hM => ?_) (fun MW hM => ?_)
       ·refine wp_seq ?_
        refine zI <| sA hS rfl fun hS => ?_
        obtain ⟨Ni, MM, hS⟩ := hS.nilV 3 (ci .i64) 1
        refine sA hS rfl fun hS => qz <| wp_ret <| qA (z3 (qA (z3 (qA ?_))))
        exact zm (rs := [6, 7]) hS rfl rfl (hret none (0) ([] : List Int) Ni (3 : Int) LK L0 _ (qU hM) MM Ma (hS.st.pick [0, 1, 2, 3] (by kernel_rfl)))
       ·refine wp_skip ?_
        refine qc <| qk <| sA hS rfl fun hS => qz <| xJ <| zv (fun MC a w => ∃ (Md : Option Addr) (Mf : Nat) (LQ : (List Int)) (Mg : qm) (Mh : Int), Ss 87 [] [(0, qO LF 0), (1, .int .i64 LG), (5, qO LR 0), (8, .slice Md LQ.length Mf), (11, .int .i64 LD), (12, .int .i64 LJ), (13, .int .i64 Mh)] H [LH, L0, LI, LY, Mg] F a w ∧ (xh 3 (ci .i64) 1 Md LQ Mf Mg) ∧ (qH.l3 K (qH.l1 K LC LG LB Mi) LK LD LJ MC LQ Mh).wp kr kp) K ?_ ?_ ?_
        ·exact ⟨LU, LX, LE, LN, (0 : Int), hS.to [0, 1, 2, 3, 4] (by kernel_rfl) ⟨rfl, rfl, rfl, rfl, rfl, rfl, rfl, trivial⟩, L1, hM⟩
        ·intro a w hI; obtain ⟨_, _, _, _, _, _, _, hM⟩ := hI; exact zr hM
        ·intro MC a w hI Ny MF
         obtain ⟨Md, Mf, LQ, Mg, Mh, hS, Mp, hM⟩ := hI
         rw [qH.l3] at hM
         refine wp_seq <| qk <| sM hS rfl fun hS => sM hS rfl fun hS => sB hS rfl fun hS => qz <| qy hS rfl hM (fun MX hM => ?_) (fun MX hM => ?_)
         ·refine wp_skip ?_
          refine qc <| wp_seq <| xJ <| zI <| sM hS rfl fun hS => sM hS rfl fun hS => Xs (g := (ci .i64)) ([LD] : List Int) [.int .i64 LD] hS Tryd.runUnderlying45 Tryd.sizeOf3 X.el3 rfl rfl rfl (by simp [Value.cells]) rfl rfl rfl rfl rfl fun w Nw NB NE MN hS => ?_
          obtain ⟨M3, hM⟩ := qE hM
          refine Yk (ys := ([LD] : List Int)) 5 hS rfl rfl Mp rfl (MN.rd (i := 0) rfl) Tryd.runUnderlying45 Tryd.runUnderlying45 X.el3 (fun _ => rfl) rfl xG M3 rfl fun M7 w M9 Nb Nj hz MO hS => ?_
          have hM := qB hz hM; clear hz
          refine sA hS rfl fun hS => zd <| zz (qc ?_)
          refine zI <| sM hS rfl fun hS => sB hS rfl fun hS => zH (v := Value.int .i64) (x0 := (qi (Mh + (1 : Int)))) hS (xv rfl) rfl fun Nn a w hz hS => ?_
          have hM := qB hz hM; clear hz
          refine zd <| qc ?_
          exact MF _ _ ⟨M9, Nb, M7, Nj, Nn, hS.to [1, 2, 3, 4, 5] (by kernel_rfl) ⟨rfl, rfl, rfl, rfl, rfl, rfl, rfl, trivial⟩, MO, hM⟩
         ·refine wp_exit ?_
          refine qC (qC (q9 (zz (qc ?_))))
          exact Mn _ _ ⟨LK, L0, Md, Mf, LQ, Mg, hS.to [0, 1, 2, 3, 4] (by kernel_rfl) ⟨rfl, rfl, rfl, rfl, trivial⟩, Ma, Mp, hM⟩
  ·refine wp_exit ?_
   refine qC (qC (q9 (qc ?_)))
   refine qk <| sM hS rfl fun hS => sA hS rfl fun hS => sA hS rfl fun hS => qz <| wp_ret ?_
   exact zm (rs := [6, 7]) hS rfl rfl (hret LU LX LE LN (0 : Int) LP L9 _ (qU hM) L1 Mm (hS.st.pick [4, 0, 1, 2] (by kernel_rfl)))
theorem vm {H : xU} {F : List qm} {w : World} {R : Ending → World → Prop} {kr : (Int × Int × (List Int)) → Prop} {kp : Value → Prop} (hG : Gl H) (K : Nat) (LB : qr) (LP : Nat) (LC : qm) (LM : Nat) (Mf : qm) (LJ : Option Addr) (LK : Nat) (LD : qm) (LH : xZ LC LP ([qO LM 0, .slice LJ LB.out_.length LK, .int .i64 LB.limit_]) 84) (ML : xZ Mf LM ([yb LB.r_.S_, .int .i64 LB.r_.At_]) 82) (LI : xh 5 (ci .u8) 1 LJ LB.out_ LK LD)
    (hS : St w H [LC, Mf, LD] F) (hm : (xO.m K LB).wp kr kp)
    (hret : ∀ (MK : Int) (L6 : Int) (MA : qm) (Mr : Option Addr) (Ms : Nat) (LT : (List Int)) (MB : qm) (MC : qm) (w : World), kr (MK, L6, LT) → (xZ MA LM ([yb LB.r_.S_, .int .i64 L6]) 82) → (xh 5 (ci .u8) 1 Mr LT Ms MB) → (xZ MC LP ([qO LM 0, .slice Mr LT.length Ms, .int .i64 LB.limit_]) 84) → St w H [MC, MA, MB] F → R (.returned (.int .i64 MK)) w) :
    Calls Tryd.prog 65 ⟨[qO LP 0]⟩ w R := by
 refine enter Tryd.func65 rfl Tryd.ntmps65 rfl hS fun a w hS => ?_
 have hM := hm; clear hm
 rw [xO.m] at hM
 refine qk <| sA hS rfl fun hS => qz <| qk <| sM hS rfl fun hS => qK hS rfl Tryd.call90 (v9 hG K LB LP LC LM Mf LJ LK LD LH ML LI (hS.st.part 3 [0, 1, 2] (by kernel_rfl)) (qx hM) (fun M8 M9 L0 L7 LS LY L1 L8 LE LZ Na L5 Mg w hM MD ME MF hst => qJ hS.ev hst.appF rfl fun hS => ?_))
 replace hS : Ss _ _ _ H [LY, LZ, LC, Mg, LD] F _ _ := hS
 refine sM hS rfl fun hS => sO hS (ex rfl rfl) rfl fun hS => sO hS (ex rfl rfl) rfl fun hS => sO hS (ex rfl rfl) rfl fun hS => sO hS (ex rfl rfl) rfl fun hS => QJ ([.slice none 0 0, .slice none 0 0]) hS Tryd.zeroValue121 rfl rfl fun w Nm Nq MM hS => ?_
 obtain ⟨Mb, Nf, hS⟩ := hS.nilV 3 (ci .i64) 1
 obtain ⟨Mc, Ng, hS⟩ := hS.nilV 3 (ci .i64) 1
 refine sA hS rfl fun hS => sA hS rfl fun hS => u5 2 ([.slice L0 LS.length L7, .slice L1 LE.length L8]) ([.slice L0 LS.length L7, .slice L1 LE.length L8]) hS rfl rfl MM rfl rfl Tryd.sizeOf121 (by simp [Value.oneCell']) (Nat.le_of_ble_eq_true rfl) rfl fun w Md MN hS => sA hS rfl fun hS => qz <| wp_seq <| qk <| sM hS rfl fun hS => sB hS rfl fun hS => qz <| qy hS rfl hM (fun MS hM => ?_) (fun MS hM => ?_)
 ·refine wp_seq ?_
  refine zI <| sM hS rfl fun hS => sA hS rfl fun hS => qz <| wp_ret <| qA ?_
  exact zm (rs := [2]) hS rfl rfl (hret Na L5 Mg LJ LK LB.out_ LD LC _ (qU hM) MF LI LH (hS.st.pick [5, 6, 7] (by kernel_rfl)))
 ·refine wp_skip ?_
  refine qc <| qk <| sM hS rfl fun hS => sM hS rfl fun hS => sM hS rfl fun hS => sB hS rfl fun hS => sO hS (vT 2 rfl MN rfl ([.slice L0 LS.length L7, .slice L1 LE.length L8]) rfl rfl Tryd.isAgg121 Tryd.sizeOf121) rfl fun hS => qK hS rfl Tryd.call91 (uz hG K (qr.mk (qj.mk LB.r_.S_ L5) LB.out_ LB.limit_) (qi (M8 + M9)) (zp.mk LS LE) LP LC LM Mg LJ LK LD L0 L7 L1 L8 LH MF LI (MD.rdF (i := 3) rfl) (MD.cap (fun _ => rfl) rfl) (ME.rdF (i := 4) rfl) (ME.cap (fun _ => rfl) rfl) (hS.st.part 3 [5, 6, 7, 0, 1, 2, 3, 4] (by kernel_rfl)) (qx hM) (fun Nl Np Nb Me Nc LR LQ w hM LL Mi hst => qJ hS.ev hst.appF rfl fun hS => ?_))
  replace hS : Ss _ _ _ H [Me, LC, LQ, LD, Mc, Mb, Md, LY, LZ] F _ _ := hS
  refine sM hS rfl fun hS => sO hS (ex rfl rfl) rfl fun hS => sO hS (ex rfl rfl) rfl fun hS => sA hS rfl fun hS => sA hS rfl fun hS => qz <| wp_seq <| qk <| sM hS rfl fun hS => sB hS rfl fun hS => qz <| qy hS rfl hM (fun MT hM => ?_) (fun MT hM => ?_)
  ·refine wp_seq ?_
   refine zI <| sM hS rfl fun hS => sA hS rfl fun hS => qz <| wp_ret <| qA ?_
   exact zm (rs := [2]) hS rfl rfl (hret Nc LR LQ LJ LK LB.out_ LD LC _ (qU hM) Mi LI LH (hS.st.pick [1, 2, 3] (by kernel_rfl)))
  ·refine wp_skip ?_
   refine qc <| qk <| sM hS rfl fun hS => sM hS rfl fun hS => ?_
   obtain ⟨MV, hM⟩ := qE hM
   refine Gc (g := (ci .i64)) hS rfl Tryd.runUnderlying45 Tryd.sizeOf3 Gg (BR rfl) (fun _ => rfl) (LL.cap (fun _ => rfl) rfl) MV rfl fun LN LU LW a w hz Ml Mj hS => ?_
   have hM := qB hz hM; clear hz
   refine qK hS rfl Tryd.call63 (yl hG K LN LU LW (Ml _ _ _ (LL.rdF (i := 0) rfl)) Mj (hS.st.part 0 [0, 1, 2, 3, 4, 5, 6, 7, 8] (by kernel_rfl)) (qx hM) (fun L3 L9 LF Mh MI w hM MG hst => qJ hS.ev hst.appF rfl fun hS => ?_))
   replace hS : Ss _ _ _ H [Mh, Me, LC, LQ, LD, Mc, Mb, Md, LY, LZ] F _ _ := hS
   refine sM hS rfl fun hS => sO hS (ex rfl rfl) rfl fun hS => sO hS (ex rfl rfl) rfl fun hS => QJ ([.slice none 0 0, .slice none 0 0]) hS Tryd.zeroValue121 rfl rfl fun w Nn Nr MO hS => ?_
   obtain ⟨Mt, Nh, hS⟩ := hS.nilV 3 (ci .i64) 1
   obtain ⟨Mu, Ni, hS⟩ := hS.nilV 3 (ci .i64) 1
   refine u5 2 ([.slice LU LN.length LW, .slice L3 LF.length L9]) ([.slice LU LN.length LW, .slice L3 LF.length L9]) hS rfl rfl MO rfl rfl Tryd.sizeOf121 (by simp [Value.oneCell']) (Nat.le_of_ble_eq_true rfl) rfl fun w Mv MP hS => sA hS rfl fun hS => qz <| qk <| sM hS rfl fun hS => sM hS rfl fun hS => ?_
   obtain ⟨MW, hM⟩ := qE hM
   refine Gc (g := (ci .i64)) hS rfl Tryd.runUnderlying45 Tryd.sizeOf3 (GP rfl) DF (fun _ => rfl) (LL.cap (fun _ => rfl) rfl) MW rfl fun LO LV LX a w hz Mm Mk hS => ?_
   have hM := qB hz hM; clear hz
   refine qK hS rfl Tryd.call63 (yl hG K LO LV LX (Mm _ _ _ (LL.rdF (i := 4) rfl)) Mk (hS.st.part 0 [0, 1, 2, 3, 4, 5, 6, 7, 8, 9, 10, 11, 12] (by kernel_rfl)) (qx hM) (fun L4 Ma LG Mw MJ w hM MH hst => qJ hS.ev hst.appF rfl fun hS => ?_))
   replace hS : Ss _ _ _ H [Mw, Mu, Mt, Mv, Mh, Me, LC, LQ, LD, Mc, Mb, Md, LY, LZ] F _ _ := hS
   refine sM hS rfl fun hS => sO hS (ex rfl rfl) rfl fun hS => sO hS (ex rfl rfl) rfl fun hS => QJ ([.slice none 0 0, .slice none 0 0]) hS Tryd.zeroValue121 rfl rfl fun w No Ns MQ hS => ?_
   obtain ⟨M0, Nj, hS⟩ := hS.nilV 3 (ci .i64) 1
   obtain ⟨M3, Nk, hS⟩ := hS.nilV 3 (ci .i64) 1
   refine u5 2 ([.slice LV LO.length LX, .slice L4 LG.length Ma]) ([.slice LV LO.length LX, .slice L4 LG.length Ma]) hS rfl rfl MQ rfl rfl Tryd.sizeOf121 (by simp [Value.oneCell']) (Nat.le_of_ble_eq_true rfl) rfl fun w M4 MR hS => sA hS rfl fun hS => qz <| wp_seq <| qk <| sM hS rfl fun hS => sO hS (un rfl rfl) rfl fun hS => sM hS rfl fun hS => yw 2 false 51 (b := (!MI)) (r := (!MJ)) hS rfl rfl rfl rfl rfl rfl rfl (fun hb a w hS K hK => ?_) rfl fun a w hS => ?_
   ·refine zK hS rfl rfl rfl hb (mv rfl) rfl fun a w hS => ?_
    refine zK hS rfl rfl rfl hb (un rfl rfl) rfl fun a w hS => ?_
    exact zd (hK _ _ (hS.up 2 rfl rfl))
   refine sM hS rfl fun hS => ?_
   obtain ⟨MX, hM⟩ := qE hM
   refine yw 4 false 55 (b := ((!MI) || (!MJ))) (r := ((rd Nb (256 : Int)) == (0 : Int))) hS rfl rfl rfl rfl rfl rfl rfl (fun hb a w hS K hK => ?_) rfl fun a w hS => ?_
   ·refine zK hS rfl rfl rfl hb (mv rfl) rfl fun a w hS => ?_
    have Mn := Vt MX hb
    refine zK hS rfl rfl rfl hb (x6 rfl rfl Tryd.runUnderlying45 Tryd.sizeOf3 (LL.rd (i := 8) rfl) (fun _ => rfl) rfl Mn) rfl fun a w hS => zK hS rfl rfl rfl hb (x9 rfl (LL.rd (i := 8) rfl) (fun _ => rfl) Mn rfl Tryd.isAgg3) rfl fun a w hS => zK hS rfl rfl rfl hb (yZ rfl rfl rfl) rfl fun a w hS => ?_
    exact zd (hK _ _ (hS.up 4 rfl rfl))
   refine qz <| qy hS rfl hM (fun MU hM => ?_) (fun MU hM => ?_)
   ·refine wp_seq ?_
    refine zI <| sA hS rfl fun hS => qz <| wp_ret <| qA ?_
    exact zm (rs := [2]) hS rfl rfl (hret (3 : Int) LR LQ LJ LK LB.out_ LD LC _ (qU hM) Mi LI LH (hS.st.pick [9, 10, 11] (by kernel_rfl)))
   ·refine wp_skip ?_
    refine qc <| qk <| sM hS rfl fun hS => sO hS (vT 6 rfl MP rfl ([.slice LU LN.length LW, .slice L3 LF.length L9]) rfl rfl Tryd.isAgg121 Tryd.sizeOf121) rfl fun hS => sO hS (vT 2 rfl MR rfl ([.slice LV LO.length LX, .slice L4 LG.length Ma]) rfl rfl Tryd.isAgg121 Tryd.sizeOf121) rfl fun hS => qK hS rfl Tryd.call64 (yS hG K (qr.mk (qj.mk LB.r_.S_ LR) LB.out_ LB.limit_) (zp.mk LN LF) (zp.mk LO LG) LP LC LM LQ LJ LK LD LU LW L3 L9 LV LX L4 Ma LH Mi LI (Ml _ _ _ (LL.rdF (i := 8) rfl)) Mj (MG.rdF (i := 7) rfl) (MG.cap (fun _ => rfl) rfl) (Mm _ _ _ (LL.rdF (i := 8) rfl)) Mk (MH.rdF (i := 3) rfl) (MH.cap (fun _ => rfl) rfl) (hS.st.part 3 [9, 10, 11, 0, 1, 2, 3, 4, 5, 6, 7, 8, 12, 13, 14, 15, 16] (by kernel_rfl)) (qx hM) (fun Nd Mp Mx MY MZ Mq My Mz w hM M5 M6 M7 hst => qJ hS.ev hst.appF rfl fun hS => ?_))
    replace hS : Ss _ _ _ H [Mz, Mx, My, M3, M0, M4, Mw, Mu, Mt, Mv, Mh, Me, Mc, Mb, Md, LY, LZ] F _ _ := hS
    refine sA hS rfl fun hS => qz <| wp_ret ?_
    exact zm (rs := [2]) hS rfl rfl (hret Nd Mp Mx MY MZ Mq My Mz _ (qU hM) M5 M6 M7 (hS.st.pick [0, 1, 2] (by kernel_rfl)))
theorem vX {H : xU} {F : List qm} {w : World} {R : Ending → World → Prop} {kr : (Bool × Int × Int × (List Int)) → Prop} {kp : Value → Prop} (hG : Gl H) (K : Nat) (LB : qr) (LN : Nat) (LC : qm) (LL : Nat) (L7 : qm) (LI : Option Addr) (LJ : Nat) (LD : qm) (LE : xZ LC LN ([qO LL 0, .slice LI LB.out_.length LJ, .int .i64 LB.limit_]) 84) (MG : xZ L7 LL ([yb LB.r_.S_, .int .i64 LB.r_.At_]) 82) (LF : xh 5 (ci .u8) 1 LI LB.out_ LJ LD)
    (hS : St w H [LC, L7, LD] F) (hm : (xX.m K LB).wp kr kp)
    (hret : ∀ (ME : Bool) (MF : Int) (LZ : Int) (My : qm) (Mi : Option Addr) (Mj : Nat) (LO : (List Int)) (Mz : qm) (MA : qm) (w : World), kr (ME, MF, LZ, LO) → (xZ My LL ([yb LB.r_.S_, .int .i64 LZ]) 82) → (xh 5 (ci .u8) 1 Mi LO Mj Mz) → (xZ MA LN ([qO LL 0, .slice Mi LO.length Mj, .int .i64 LB.limit_]) 84) → St w H [MA, My, Mz] F → R (.returned (.tuple ⟨[.bool ME, .int .i64 MF]⟩)) w) :
    Calls Tryd.prog 42 ⟨[qO LN 0]⟩ w R := by
 refine enter Tryd.func42 rfl Tryd.ntmps42 rfl hS fun a w hS => ?_
 have hM := hm; clear hm
 rw [xX.m] at hM
 refine qk <| sA hS rfl fun hS => sA hS rfl fun hS => qz <| qk <| sM hS rfl fun hS => qK hS rfl Tryd.call61 (zY hG K LB (1 : Int) (0 : Int) LN LC LL L7 LI LJ LD LE MG LF (hS.st.part 3 [0, 1, 2] (by kernel_rfl)) (qx hM) (fun Ma Nd LY L8 w hM MB hst => qJ hS.ev hst.appF rfl fun hS => ?_))
 replace hS : Ss _ _ _ H [LC, L8, LD] F _ _ := hS
 refine sM hS rfl fun hS => sO hS (ex rfl rfl) rfl fun hS => sO hS (ex rfl rfl) rfl fun hS => sA hS rfl fun hS => sA hS rfl fun hS => qz <| wp_seq <| qk <| sM hS rfl fun hS => sB hS rfl fun hS => qz <| qy hS rfl hM (fun ML hM => ?_) (fun ML hM => ?_)
 ·refine wp_seq ?_
  refine zI <| sM hS rfl fun hS => sA hS rfl fun hS => sA hS rfl fun hS => qz <| wp_ret <| qA ?_
  exact zm (rs := [2, 3]) hS rfl rfl (hret false Nd LY L8 LI LJ LB.out_ LD LC _ (qU hM) MB LF LE (hS.st.pick [0, 1, 2] (by kernel_rfl)))
 ·refine wp_skip ?_
  refine qc <| qk <| sM hS rfl fun hS => qK hS rfl Tryd.call61 (zY hG K (qr.mk (qj.mk LB.r_.S_ LY) LB.out_ LB.limit_) (2 : Int) (0 : Int) LN LC LL L8 LI LJ LD LE MB LF (hS.st.part 3 [0, 1, 2] (by kernel_rfl)) (qx hM) (fun Mb Nf LK LM w hM LT hst => qJ hS.ev hst.appF rfl fun hS => ?_))
  replace hS : Ss _ _ _ H [LC, LM, LD] F _ _ := hS
  refine sM hS rfl fun hS => sO hS (ex rfl rfl) rfl fun hS => sO hS (ex rfl rfl) rfl fun hS => sA hS rfl fun hS => sA hS rfl fun hS => qz <| wp_seq <| qk <| sM hS rfl fun hS => sB hS rfl fun hS => qz <| qy hS rfl hM (fun MM hM => ?_) (fun MM hM => ?_)
  ·refine wp_seq ?_
   refine zI <| sM hS rfl fun hS => sA hS rfl fun hS => sA hS rfl fun hS => qz <| wp_ret <| qA ?_
   exact zm (rs := [2, 3]) hS rfl rfl (hret false Nf LK LM LI LJ LB.out_ LD LC _ (qU hM) LT LF LE (hS.st.pick [0, 1, 2] (by kernel_rfl)))
  ·refine wp_skip ?_
   refine qc <| wp_seq <| qk <| sM hS rfl fun hS => qz <| xJ <| qk <| sB hS rfl fun hS => zH (v := Value.bool) (x0 := (Mb == (0 : Int))) hS (xv rfl) rfl fun Nr a w hz hS => ?_
   have hM := qB hz hM; clear hz
   refine qz <| qy hS rfl hM (fun MN hM => ?_) (fun MN hM => ?_)
   ·refine wp_seq ?_
    refine zI <| sM hS rfl fun hS => sB hS rfl fun hS => sM hS rfl fun hS => qK hS rfl Tryd.call62 (vx hG K (qr.mk (qj.mk LB.r_.S_ LK) LB.out_ LB.limit_) LN LC LL LM LI LJ LD LE LT LF (hS.st.part 3 [0, 1, 2] (by kernel_rfl)) (qx hM) (fun Ng Mc Mk MQ MT Mf Ml Mm w hM MZ M0 M3 hst => qJ hS.ev hst.appF rfl fun hS => ?_))
    replace hS : Ss _ _ _ H [Mm, Mk, Ml] F _ _ := hS
    refine zH (v := Value.bool) (x0 := (Ma == (1 : Int))) hS (xv rfl) rfl fun Na a w hz hS => ?_
    have hM := qB hz hM; clear hz
    refine sA hS rfl fun hS => qz <| wp_ret <| z3 (qA ?_)
    exact zm (rs := [2, 3]) hS rfl rfl (hret Na Ng Mc Mk MQ MT Mf Ml Mm _ (qU hM) MZ M0 M3 (hS.st.pick [0, 1, 2] (by kernel_rfl)))
   ·refine wp_seq ?_
    refine zI <| sB hS rfl fun hS => zH (v := Value.bool) (x0 := (Mb == (1 : Int))) hS (xv rfl) rfl fun Ns a w hz hS => ?_
    have hM := qB hz hM; clear hz
    refine qz <| qy hS rfl hM (fun MO hM => ?_) (fun MO hM => ?_)
    ·refine wp_seq ?_
     refine zI <| qK hS rfl Tryd.call26 (ve hG K  (hS.st.part 0 [0, 1, 2] (by kernel_rfl)) (qx hM) (fun LP LR LU L3 LQ LS LV L4 w hM L5 L6 hst => qJ hS.ev hst.appF rfl fun hS => ?_))
     replace hS : Ss _ _ _ H [L3, L4, LC, LM, LD] F _ _ := hS
     refine sM hS rfl fun hS => sO hS (ex rfl rfl) rfl fun hS => sO hS (ex rfl rfl) rfl fun hS => sA hS rfl fun hS => sA hS rfl fun hS => qz <| qk <| sM hS rfl fun hS => qK hS rfl Tryd.call63 (yl hG K LU LP LR (L5.rdF (i := 0) rfl) (L5.cap (fun _ => rfl) rfl) (hS.st.part 0 [0, 1, 2, 3, 4] (by kernel_rfl)) (qx hM) (fun LW L0 LG L9 Nu w hM MC hst => qJ hS.ev hst.appF rfl fun hS => ?_))
     replace hS : Ss _ _ _ H [L9, L3, L4, LC, LM, LD] F _ _ := hS
     refine sM hS rfl fun hS => sO hS (ex rfl rfl) rfl fun hS => sO hS (ex rfl rfl) rfl fun hS => QJ ([.slice none 0 0, .slice none 0 0]) hS Tryd.zeroValue121 rfl rfl fun w Nn Np MH hS => ?_
     obtain ⟨Mn, Nj, hS⟩ := hS.nilV 3 (ci .i64) 1
     obtain ⟨Mp, Nk, hS⟩ := hS.nilV 3 (ci .i64) 1
     refine u5 2 ([.slice LP LU.length LR, .slice LW LG.length L0]) ([.slice LP LU.length LR, .slice LW LG.length L0]) hS rfl rfl MH rfl rfl Tryd.sizeOf121 (by simp [Value.oneCell']) (Nat.le_of_ble_eq_true rfl) rfl fun w Mq MI hS => sA hS rfl fun hS => qz <| qk <| sM hS rfl fun hS => qK hS rfl Tryd.call63 (yl hG K LV LQ LS (L6.rdF (i := 5) rfl) (L6.cap (fun _ => rfl) rfl) (hS.st.part 0 [0, 1, 2, 3, 4, 5, 6, 7, 8] (by kernel_rfl)) (qx hM) (fun LX L1 LH Mr Nv w hM MD hst => qJ hS.ev hst.appF rfl fun hS => ?_))
     replace hS : Ss _ _ _ H [Mr, Mp, Mn, Mq, L9, L3, L4, LC, LM, LD] F _ _ := hS
     refine sM hS rfl fun hS => sO hS (ex rfl rfl) rfl fun hS => sO hS (ex rfl rfl) rfl fun hS => QJ ([.slice none 0 0, .slice none 0 0]) hS Tryd.zeroValue121 rfl rfl fun w No Nq MJ hS => ?_
     obtain ⟨MW, Nl, hS⟩ := hS.nilV 3 (ci .i64) 1
     obtain ⟨MX, Nm, hS⟩ := hS.nilV 3 (ci .i64) 1
     refine u5 2 ([.slice LQ LV.length LS, .slice LX LH.length L1]) ([.slice LQ LV.length LS, .slice LX LH.length L1]) hS rfl rfl MJ rfl rfl Tryd.sizeOf121 (by simp [Value.oneCell']) (Nat.le_of_ble_eq_true rfl) rfl fun w MY MK hS => sA hS rfl fun hS => qz <| qk <| sM hS rfl fun hS => sB hS rfl fun hS => sM hS rfl fun hS => sO hS (vT 6 rfl MI rfl ([.slice LP LU.length LR, .slice LW LG.length L0]) rfl rfl Tryd.isAgg121 Tryd.sizeOf121) rfl fun hS => sO hS (vT 2 rfl MK rfl ([.slice LQ LV.length LS, .slice LX LH.length L1]) rfl rfl Tryd.isAgg121 Tryd.sizeOf121) rfl fun hS => qK hS rfl Tryd.call64 (yS hG K (qr.mk (qj.mk LB.r_.S_ LK) LB.out_ LB.limit_) (zp.mk LU LG) (zp.mk LV LH) LN LC LL LM LI LJ LD LP LR LW L0 LQ LS LX L1 LE LT LF (L5.rdF (i := 8) rfl) (L5.cap (fun _ => rfl) rfl) (MC.rdF (i := 7) rfl) (MC.cap (fun _ => rfl) rfl) (L6.rdF (i := 9) rfl) (L6.cap (fun _ => rfl) rfl) (MD.rdF (i := 3) rfl) (MD.cap (fun _ => rfl) rfl) (hS.st.part 3 [10, 11, 12, 0, 1, 2, 3, 4, 5, 6, 7, 8, 9] (by kernel_rfl)) (qx hM) (fun Nh Md Ms MR MU Mg Mt Mu w hM M4 M5 M6 hst => qJ hS.ev hst.appF rfl fun hS => ?_))
     replace hS : Ss _ _ _ H [Mu, Ms, Mt, MX, MW, MY, Mr, Mp, Mn, Mq, L9, L3, L4] F _ _ := hS
     refine zH (v := Value.bool) (x0 := (Ma == (1 : Int))) hS (xv rfl) rfl fun Nb a w hz hS => ?_
     have hM := qB hz hM; clear hz
     refine sA hS rfl fun hS => qz <| wp_ret <| z3 (qA ?_)
     exact zm (rs := [2, 3]) hS rfl rfl (hret Nb Nh Md Ms MR MU Mg Mt Mu _ (qU hM) M4 M5 M6 (hS.st.pick [0, 1, 2] (by kernel_rfl)))
    ·refine wp_seq ?_
     refine zI <| sB hS rfl fun hS => zH (v := Value.bool) (x0 := (Mb == (2 : Int))) hS (xv rfl) rfl fun Nt a w hz hS => ?_
     have hM := qB hz hM; clear hz
     refine qz <| qy hS rfl hM (fun MP hM => ?_) (fun MP hM => ?_)
     ·refine wp_seq ?_
      refine zI <| sM hS rfl fun hS => sB hS rfl fun hS => sM hS rfl fun hS => qK hS rfl Tryd.call65 (vm hG K (qr.mk (qj.mk LB.r_.S_ LK) LB.out_ LB.limit_) LN LC LL LM LI LJ LD LE LT LF (hS.st.part 3 [0, 1, 2] (by kernel_rfl)) (qx hM) (fun Ni Me Mv MS MV Mh Mw Mx w hM M7 M8 M9 hst => qJ hS.ev hst.appF rfl fun hS => ?_))
      replace hS : Ss _ _ _ H [Mx, Mv, Mw] F _ _ := hS
      refine zH (v := Value.bool) (x0 := (Ma == (1 : Int))) hS (xv rfl) rfl fun Nc a w hz hS => ?_
      have hM := qB hz hM; clear hz
      refine sA hS rfl fun hS => qz <| wp_ret <| z3 (qA ?_)
      exact zm (rs := [2, 3]) hS rfl rfl (hret Nc Ni Me Mv MS MV Mh Mw Mx _ (qU hM) M7 M8 M9 (hS.st.pick [0, 1, 2] (by kernel_rfl)))
     ·refine wp_skip ?_
      refine zz (qc ?_)
      refine qk <| sA hS rfl fun hS => sA hS rfl fun hS => qz <| wp_ret ?_
      exact zm (rs := [2, 3]) hS rfl rfl (hret false (3 : Int) LK LM LI LJ LB.out_ LD LC _ (qU hM) LT LF LE (hS.st.pick [0, 1, 2] (by kernel_rfl)))
theorem uX {H : xU} {F : List qm} {w : World} {R : Ending → World → Prop} {kr : ((List UInt8) × Int × Int) → Prop} {kp : Value → Prop} (hG : Gl H) (K : Nat) (LI : List UInt8) (LB : Int)
    (hS : St w H [] F) (hm : (xc.m K LI LB).wp kr kp)
    (hret : ∀ (L1 : List UInt8) (L3 : Int) (L4 : Int) (w : World), kr (L1, L3, L4) → St w H [] F → R (.returned (.tuple ⟨[yb L1, .int .i64 L3, .int .i64 L4]⟩)) w) :
    Calls Tryd.prog 17 ⟨[yb LI, .int .i64 LB]⟩ w R := by
 refine enter Tryd.func17 rfl Tryd.ntmps17 rfl hS fun a w hS => ?_
 have hM := hm; clear hm
 rw [xc.m] at hM
 refine qk <| sA hS rfl fun hS => sA hS rfl fun hS => sA hS rfl fun hS => qz <| wp_seq <| qk <| sM hS rfl fun hS => sB hS rfl fun hS => sM hS rfl fun hS => yw 2 false 12 (b := (decide (LB < (0 : Int)))) (r := (decide (LB > (1073741824 : Int)))) hS rfl rfl rfl rfl rfl rfl rfl (fun hb a w hS K hK => ?_) rfl fun a w hS => ?_
 ·refine zK hS rfl rfl rfl hb (mv rfl) rfl fun a w hS => ?_
  refine zK hS rfl rfl rfl hb (yZ rfl rfl rfl) rfl fun a w hS => ?_
  exact zd (hK _ _ (hS.up 2 rfl rfl))
 refine qz <| qy hS rfl hM (fun Mc hM => ?_) (fun Mc hM => ?_)
 ·refine wp_seq ?_
  refine zI <| sA hS rfl fun hS => sA hS rfl fun hS => sA hS rfl fun hS => qz <| wp_ret <| qA ?_
  exact zm (rs := [4, 5, 6]) hS rfl rfl (hret ([] : List UInt8) (0 : Int) (1 : Int) _ (qU hM) (hS.st.pick [] (by kernel_rfl)))
 ·refine wp_skip ?_
  refine qc <| qk <| sM hS rfl fun hS => sO hS (Zq ([yb LI, .int .i64 (0 : Int)]) [(0, 1), (1, 1)] Tryd.zeroValue82 Tryd.runUnderlying82 (by intro w; simp [Tryd.sizeOf3, Tryd.sizeOf9]) rfl rfl) rfl fun hS => bx ([yb LI, .int .i64 (0 : Int)]) hS rfl rfl rfl fun w LF Mf L5 hS => sM hS rfl fun hS => sO hS (Zq ([qO LF 0, .slice none 0 0, .int .i64 LB]) [(0, 1), (1, 1), (2, 1)] Tryd.zeroValue84 Tryd.runUnderlying84 (by intro w; simp [Tryd.sizeOf3, Tryd.sizeOf38, Tryd.sizeOf80]) rfl rfl) rfl fun hS => bx ([qO LF 0, .slice none 0 0, .int .i64 LB]) hS rfl rfl rfl fun w LD Mg L6 hS => ?_
  obtain ⟨Mh, Ma, hS⟩ := hS.nilV 5 (ci .u8) 1
  refine sA hS rfl fun hS => qz <| xJ <| zv (fun L0 a w => ∃ (LG : Int) (LL : qm) (LJ : Option Addr) (LK : Nat) (LE : (List Int)) (LM : qm) (LN : qm), Ss 45 [] [(7, qO LD 0)] H [LN, LL, LM] F a w ∧ (xZ LL LF ([yb LI, .int .i64 LG]) 82) ∧ (xh 5 (ci .u8) 1 LJ LE LK LM) ∧ (xZ LN LD ([qO LF 0, .slice LJ LE.length LK, .int .i64 LB]) 84) ∧ (xc.l1 K LI LB L0 LG LE).wp kr kp) K ?_ ?_ ?_
  ·exact ⟨(0 : Int), Mf, none, 0, ([] : List Int), Mh, Mg, hS.to [1, 2, 0] (by kernel_rfl) ⟨rfl, trivial⟩, L5, Ma, L6, hM⟩
  ·intro a w hI; obtain ⟨_, _, _, _, _, _, _, _, _, _, _, hM⟩ := hI; exact zr hM
  ·intro L0 a w hI Mj L9
   obtain ⟨LG, LL, LJ, LK, LE, LM, LN, hS, L7, Mb, L8, hM⟩ := hI
   rw [xc.l1] at hM
   refine xJ <| qk <| sM hS rfl fun hS => qK hS rfl Tryd.call42 (vX hG K (qr.mk (qj.mk LI LG) LE LB) LD LN LF LL LJ LK LM L8 L7 Mb (hS.st.part 3 [0, 1, 2] (by kernel_rfl)) (qx hM) (fun Mk Mi LC LV LT LU LH LW LX w hM LY LZ LO hst => qJ hS.ev hst.appF rfl fun hS => ?_))
   replace hS : Ss _ _ _ H [LX, LV, LW] F _ _ := hS
   refine sM hS rfl fun hS => sO hS (ex rfl rfl) rfl fun hS => sO hS (ex rfl rfl) rfl fun hS => sA hS rfl fun hS => sA hS rfl fun hS => qz <| wp_seq <| qk <| sM hS rfl fun hS => sB hS rfl fun hS => qz <| qy hS rfl hM (fun Md hM => ?_) (fun Md hM => ?_)
   ·refine wp_seq ?_
    refine zI <| sM hS rfl fun hS => sA hS rfl fun hS => sA hS rfl fun hS => sA hS rfl fun hS => qz <| wp_ret <| qA (z3 (qA (z3 ?_)))
    exact zm (rs := [4, 5, 6]) hS rfl rfl (hret ([] : List UInt8) (0 : Int) Mi _ (qU hM) (hS.st.pick [] (by kernel_rfl)))
   ·refine wp_skip ?_
    refine qc <| qk <| sM hS rfl fun hS => qz <| qy hS rfl hM (fun Me hM => ?_) (fun Me hM => ?_)
    ·refine wp_seq ?_
     obtain ⟨LR, LP⟩ : ∃ x, x = (LH.map Q5) := ⟨_, rfl⟩
     replace hM := qB LP hM
     obtain ⟨LS, LQ⟩ : ∃ x, x = (xA .i64 (qi (LC + (7 : Int))) (8 : Int)) := ⟨_, rfl⟩
     replace hM := qB LQ hM
     refine zh (vals := [some (qO LD 0), some (qO LD 0), some (qO LD 1), some (.slice LT LH.length LU), some (yb (LH.map Q5)), some (qO LD 0), some (qO LD 0), some (qO LD 0), some (qO LF 0), some (qO LF 0), some (qO LF 1), some (.int .i64 LC), some (.int .i64 (qi (LC + (7 : Int)))), some (.int .i64 (xA .i64 (qi (LC + (7 : Int))) (8 : Int))), some (yb LR), some (.int .i64 LS), some (.int .i64 (0 : Int))]) hS xH rfl ?_
     intro l w ho hcl hA hst
     refine yo hA hst ho hcl xI [0, 1, 2, 3, 4, 5, 6, 7, 8, 9, 10, 11, 12, 13, 14, 15, 16] rfl rfl rfl (by exact ⟨nM rfl, nQ rfl (by exact qY (yu rfl) rfl), nQ rfl (by exact qY (xr rfl Tryd.runUnderlying84 rfl Tryd.sizeOf38 rfl) rfl), nQ rfl (by exact qY (xW 0 rfl LO rfl rfl Tryd.isAgg38) rfl), nQ rfl (by exact qY (Gq rfl Tryd.runUnderlying38 Tryd.runUnderlying5 Tryd.runUnderlying9 (LZ.rd (i := 2) rfl)) rfl), nM rfl, nQ rfl (by exact qY (yu rfl) rfl), nQ rfl (by exact qY (xr rfl Tryd.runUnderlying84 rfl Tryd.sizeOf80 rfl) rfl), nQ rfl (by exact qY (xW 0 rfl LO rfl rfl Tryd.isAgg80) rfl), nQ rfl (by exact qY (yu rfl) rfl), nQ rfl (by exact qY (xr rfl Tryd.runUnderlying82 rfl Tryd.sizeOf3 rfl) rfl), nQ rfl (by exact qY (xW 1 rfl LY rfl rfl Tryd.isAgg3) rfl), nB rfl, nQ rfl (by exact qY (quo rfl rfl rfl) rfl), nQ rfl (by exact qY (xv rfl) (congrArg (yb) LP.symm)), nQ rfl (by exact qY (xv rfl) (congrArg (Value.int .i64) LQ.symm)), nA rfl, trivial⟩) fun a w hS => ?_
     replace hS := hS.env2 (e' := [(4, yb LR), (5, .int .i64 LS), (6, .int .i64 (0 : Int))]) ⟨rfl, rfl, rfl, trivial⟩
     refine qc <| wp_ret <| z3 (qA (z3 ?_))
     exact zm (rs := [4, 5, 6]) hS rfl rfl (hret LR LS (0 : Int) _ (qU hM) (hS.st.pick [] (by kernel_rfl)))
    ·refine wp_skip ?_
     refine zz (qc ?_)
     exact L9 _ _ ⟨LC, LV, LT, LU, LH, LW, LX, hS.to [0, 1, 2] (by kernel_rfl) ⟨rfl, trivial⟩, LY, LZ, LO, hM⟩
theorem Qh {H : xU} {F : List qm} {w : World} {R : Ending → World → Prop} {kr : (List UInt8) → Prop} {kp : Value → Prop} (hG : Gl H) (K : Nat) (LL : List UInt8)
    (hS : St w H [] F) (hm : (zq.m K LL).wp kr kp)
    (hret : ∀ (LN : List UInt8) (w : World), kr LN → St w H [] F → R (.returned (yb LN)) w) :
    Calls Tryd.prog 11 ⟨[yb LL]⟩ w R := by
 refine enter Tryd.func11 rfl Tryd.ntmps11 rfl hS fun a w hS => ?_
 have hM := hm; clear hm
 rw [zq.m] at hM
 refine qk <| sA hS rfl fun hS => qz <| qk <| sA hS rfl fun hS => ?_
 obtain ⟨L1, LP, hS⟩ := hS.nilV 5 (ci .u8) 1
 refine qz <| xJ <| zv (fun LK a w => ∃ (LE : List UInt8) (LF : Option Addr) (LG : Nat) (LD : (List Int)) (LH : qm), Ss 43 [] [(0, yb LE), (3, .slice LF LD.length LG)] H [LH] F a w ∧ (xh 5 (ci .u8) 1 LF LD LG LH) ∧ (zq.l1 K LK LE LD).wp kr kp) K ?_ ?_ ?_
 ·exact ⟨LL, none, 0, ([] : List Int), L1, hS.to [0] (by kernel_rfl) ⟨rfl, rfl, trivial⟩, LP, hM⟩
 ·intro a w hI; obtain ⟨_, _, _, _, _, _, _, hM⟩ := hI; exact zr hM
 ·intro LK a w hI Ma LO
  obtain ⟨LE, LF, LG, LD, LH, hS, LQ, hM⟩ := hI
  rw [zq.l1] at hM
  refine xJ <| qk <| sM hS rfl fun hS => sO hS (v8 rfl Tryd.runUnderlying9) rfl fun hS => sO hS (Vx rfl rfl) rfl fun hS => zH (v := Value.int .i64) (x0 := (if (LE.length : Int) < (65535 : Int) then (LE.length : Int) else (65535 : Int))) hS (xv rfl) rfl fun LB a w hz hS => ?_
  have hM := qB hz hM; clear hz
  refine qz <| qk <| sA hS rfl fun hS => qz <| zx (fun a w => ∃ (LC : Int), Ss 43 [] [(0, yb LE), (3, .slice LF LD.length LG), (4, .int .i64 LB), (5, .int .u8 LC)] H [LH] F a w ∧ (zq.j2 K (zq.l1 K LK) LE LD LB LC).wp kr kp) (fun L9 LI => ?_) ?_
  ·refine wp_seq ?_
   refine zI <| sM hS rfl fun hS => sM hS rfl fun hS => sO hS (v8 rfl Tryd.runUnderlying9) rfl fun hS => sB hS rfl fun hS => qz <| qy hS rfl hM (fun LT hM => ?_) (fun LT hM => ?_)
   ·refine zI ?_
    refine sA hS rfl fun hS => zd <| qc ?_
    exact LI _ _ ⟨(1 : Int), hS.to [0] (by kernel_rfl) ⟨rfl, rfl, rfl, rfl, trivial⟩, hM⟩
   ·refine wp_skip ?_
    refine qc ?_
    exact LI _ _ ⟨(0 : Int), hS.to [0] (by kernel_rfl) ⟨rfl, rfl, rfl, rfl, trivial⟩, hM⟩
  ·intro a w hI
   obtain ⟨LC, hS, hM⟩ := hI
   rw [zq.j2] at hM
   refine qk <| sM hS rfl fun hS => sM hS rfl fun hS => sM hS rfl fun hS => sO hS (rem rfl rfl rfl) rfl fun hS => sO hS (vH rfl Tryd.runUnderlying3 Tryd.runUnderlying5) rfl fun hS => sM hS rfl fun hS => sO hS (quo rfl rfl rfl) rfl fun hS => sO hS (vH rfl Tryd.runUnderlying3 Tryd.runUnderlying5) rfl fun hS => sM hS rfl fun hS => sO hS (rem rfl rfl rfl) rfl fun hS => sB hS rfl fun hS => sO hS (vH rfl Tryd.runUnderlying3 Tryd.runUnderlying5) rfl fun hS => sM hS rfl fun hS => sO hS (quo rfl rfl rfl) rfl fun hS => sB hS rfl fun hS => sO hS (vH rfl Tryd.runUnderlying3 Tryd.runUnderlying5) rfl fun hS => Xs (g := (ci .u8)) ([LC, (wr .u8 (yk LB (256 : Int))), (wr .u8 (xA .i64 LB (256 : Int))), (wr .u8 (qi ((255 : Int) - (yk LB (256 : Int))))), (wr .u8 (qi ((255 : Int) - (xA .i64 LB (256 : Int)))))] : List Int) [.int .u8 LC, .int .u8 (wr .u8 (yk LB (256 : Int))), .int .u8 (wr .u8 (xA .i64 LB (256 : Int))), .int .u8 (wr .u8 (qi ((255 : Int) - (yk LB (256 : Int))))), .int .u8 (wr .u8 (qi ((255 : Int) - (xA .i64 LB (256 : Int)))))] hS Tryd.runUnderlying38 Tryd.sizeOf5 X.el5 rfl rfl rfl (by simp [Value.cells]) rfl rfl rfl rfl rfl fun w L7 Mb Md LR hS => ?_
   obtain ⟨LV, hM⟩ := qE hM
   refine Yk (ys := ([LC, (wr .u8 (yk LB (256 : Int))), (wr .u8 (xA .i64 LB (256 : Int))), (wr .u8 (qi ((255 : Int) - (yk LB (256 : Int))))), (wr .u8 (qi ((255 : Int) - (xA .i64 LB (256 : Int)))))] : List Int)) 1 hS rfl rfl LQ rfl (LR.rd (i := 0) rfl) Tryd.runUnderlying38 Tryd.runUnderlying38 X.el5 (fun _ => rfl) rfl uA LV rfl fun L6 w L8 Mc Me hz LS hS => ?_
   have hM := qB hz hM; clear hz
   refine sA hS rfl fun hS => qz <| qk <| sM hS rfl fun hS => sM hS rfl fun hS => sM hS rfl fun hS => ?_
   obtain ⟨LW, hM⟩ := qE hM
   refine sO hS (GF rfl Tryd.runUnderlying9 Gg (BR rfl) LW) rfl fun hS => ?_
   obtain ⟨LX, hM⟩ := qE hM
   refine GV 1 hS rfl rfl LS rfl Tryd.runUnderlying38 Tryd.runUnderlying9 X.el5 rfl LX rfl fun LM w LZ L0 L3 hz LJ hS => ?_
   have hM := qB hz hM; clear hz
   refine sA hS rfl fun hS => qz <| qk <| sM hS rfl fun hS => sM hS rfl fun hS => ?_
   obtain ⟨LY, hM⟩ := qE hM
   refine sO hS (GF rfl Tryd.runUnderlying9 (GP rfl) DF LY) rfl fun hS => zH (v := yb) (x0 := (sub LE LB (LE.length : Int))) hS (xv rfl) rfl fun L4 a w hz hS => ?_
   have hM := qB hz hM; clear hz
   refine qz <| qk <| sM hS rfl fun hS => sB hS rfl fun hS => qz <| qy hS rfl hM (fun LU hM => ?_) (fun LU hM => ?_)
   ·refine wp_seq ?_
    refine zI <| sM hS rfl fun hS => sO hS (Gq rfl Tryd.runUnderlying38 Tryd.runUnderlying5 Tryd.runUnderlying9 (LJ.rd (i := 1) rfl)) rfl fun hS => zH (v := yb) (x0 := (LM.map Q5)) hS (xv rfl) rfl fun L5 a w hz hS => ?_
    have hM := qB hz hM; clear hz
    refine qz <| wp_ret <| z3 (qA (z3 ?_))
    exact zm (rs := [2]) hS rfl rfl (hret L5 _ (qU hM) (hS.st.pick [] (by kernel_rfl)))
   ·refine wp_skip ?_
    refine zz (qc ?_)
    exact LO _ _ ⟨L4, LZ, L0, LM, L3, hS.to [1] (by kernel_rfl) ⟨rfl, rfl, trivial⟩, LJ, hM⟩
theorem yc {H : xU} {F : List qm} {w : World} {R : Ending → World → Prop} {kr : (Int × (List Int)) → Prop} {kp : Value → Prop} (hG : Gl H) (K : Nat) (LC : qQ) (LD : Int) (LB : Int) (LE : Nat) (LJ : qm) (LN : Option Addr) (LP : Nat) (LK : qm) (LV : xZ LJ LE ([.slice LN LC.B_.length LP]) 62) (LY : xh 5 (ci .u8) 1 LN LC.B_ LP LK)
    (hS : St w H [LJ, LK] F) (hm : (qG.m K LC LD LB).wp kr kp)
    (hret : ∀ (Ma : Int) (L4 : Option Addr) (L6 : Nat) (LL : (List Int)) (L7 : qm) (L8 : qm) (w : World), kr (Ma, LL) → (xh 5 (ci .u8) 1 L4 LL L6 L7) → (xZ L8 LE ([.slice L4 LL.length L6]) 62) → St w H [L8, L7] F → R (.returned (.int .i64 Ma)) w) :
    Calls Tryd.prog 28 ⟨[qO LE 0, .int .u32 LD, .int .i64 LB]⟩ w R := by
 refine enter Tryd.func28 rfl Tryd.ntmps28 rfl hS fun a w hS => ?_
 have hM := hm; clear hm
 rw [qG.m] at hM
 refine qk <| sA hS rfl fun hS => qz <| wp_seq <| qk <| sM hS rfl fun hS => sB hS rfl fun hS => sM hS rfl fun hS => yw 2 false 10 (b := (decide (LB < (0 : Int)))) (r := (decide (LB > (32 : Int)))) hS rfl rfl rfl rfl rfl rfl rfl (fun hb a w hS K hK => ?_) rfl fun a w hS => ?_
 ·refine zK hS rfl rfl rfl hb (mv rfl) rfl fun a w hS => ?_
  refine zK hS rfl rfl rfl hb (yZ rfl rfl rfl) rfl fun a w hS => ?_
  exact zd (hK _ _ (hS.up 2 rfl rfl))
 refine sM hS rfl fun hS => v4 (fun a w => ∃ (L0 : Bool), Ss 44 [] [(0, qO LE 0), (1, .int .u32 LD), (2, .int .i64 LB), (24, .bool L0)] H [LJ, LK] F a w ∧ (qG.j2 K LC LD LB L0).wp kr kp) 10 (fun Mq LX => ?_) ?_
 ·refine UM (b := ((decide (LB < (0 : Int))) || (decide (LB > (32 : Int))))) hM (fun LG hM => ?_) (fun LG hM => ?_)
  ·replace hS := hS.re 13 (v := .bool true) rfl (congrArg Value.bool LG)
   replace hS := hS.re 14 (v := .bool true) rfl (congrArg Value.bool LG)
   refine X4 9 hS rfl fun a w hS => sO hS (pk rfl rfl rfl) rfl fun hS => zd <| qc ?_
   exact LX _ _ ⟨true, hS.to [0, 1] (by kernel_rfl) ⟨rfl, rfl, rfl, rfl, trivial⟩, hM⟩
  ·replace hS := hS.re 13 (v := .bool false) rfl (congrArg Value.bool LG)
   replace hS := hS.re 14 (v := .bool false) rfl (congrArg Value.bool LG)
   refine zK hS rfl rfl rfl rfl (mv rfl) rfl fun a w hS => zK hS rfl rfl rfl rfl (yZ rfl rfl rfl) rfl fun a w hS => zK hS rfl rfl rfl rfl (mv rfl) rfl fun a w hS => v4 (fun a w => ∃ (LU : Bool), Ss 44 [] [(0, qO LE 0), (1, .int .u32 LD), (2, .int .i64 LB), (14, .bool false), (23, .bool LU)] H [LJ, LK] F a w ∧ (qG.j1 K LC LD LB LU).wp kr kp) 6 (fun Mp LW => ?_) ?_
   ·refine UM (b := (decide (LB < (32 : Int)))) hM (fun LH hM => ?_) (fun LH hM => ?_)
    ·replace hS := hS.re 16 (v := .bool true) rfl (congrArg Value.bool LH)
     replace hS := hS.re 17 (v := .bool true) rfl (congrArg Value.bool LH)
     refine zK hS rfl rfl rfl rfl (mv rfl) rfl fun a w hS => zK hS rfl rfl rfl rfl (mv rfl) rfl fun a w hS => zK hS rfl rfl rfl rfl (vH rfl Tryd.runUnderlying3 Tryd.runUnderlying39) rfl fun a w hS => ?_
     obtain ⟨Mh, hM⟩ := qE hM
     refine zK hS rfl rfl rfl rfl (shl rfl rfl Mh) rfl fun a w hS => zK hS rfl rfl rfl rfl (yZ rfl rfl rfl) rfl fun a w hS => zK hS rfl rfl rfl rfl (pk rfl rfl rfl) rfl fun a w hS => zd <| qc ?_
     exact LW _ _ ⟨(decide (LD ≥ (xl .u32 (1 : Int) (wr .u64 LB)))), hS.to [0, 1] (by kernel_rfl) ⟨rfl, rfl, rfl, rfl, rfl, trivial⟩, hM⟩
    ·replace hS := hS.re 16 (v := .bool false) rfl (congrArg Value.bool LH)
     replace hS := hS.re 17 (v := .bool false) rfl (congrArg Value.bool LH)
     refine X4 5 hS rfl fun a w hS => zK hS rfl rfl rfl rfl (pk rfl rfl rfl) rfl fun a w hS => zd <| qc ?_
     exact LW _ _ ⟨false, hS.to [0, 1] (by kernel_rfl) ⟨rfl, rfl, rfl, rfl, rfl, trivial⟩, hM⟩
   ·intro a w hI
    obtain ⟨LU, hS, hM⟩ := hI
    rw [qG.j1] at hM
    refine sO hS (pk rfl rfl rfl) rfl fun hS => zd <| qc ?_
    exact LX _ _ ⟨LU, hS.to [0, 1] (by kernel_rfl) ⟨rfl, rfl, rfl, rfl, trivial⟩, hM⟩
 ·intro a w hI
  obtain ⟨L0, hS, hM⟩ := hI
  rw [qG.j2] at hM
  refine qz <| qy hS rfl hM (fun Mf hM => ?_) (fun Mf hM => ?_)
  ·refine wp_seq ?_
   refine zI <| sA hS rfl fun hS => qz <| wp_ret <| qA ?_
   exact zm (rs := [6]) hS rfl rfl (hret (1 : Int) LN LP LC.B_ LK LJ _ (qU hM) LY LV (hS.st.pick [0, 1] (by kernel_rfl)))
  ·refine wp_skip ?_
   refine qc <| wp_seq <| qk <| sA hS rfl fun hS => qz <| xJ <| zv (fun L9 a w => ∃ (LO : Option Addr) (LQ : Nat) (LF : (List Int)) (LR : qm) (LS : qm) (LI : Int) (LT : Int), Ss 44 [] [(0, qO LE 0), (1, .int .u32 LI), (2, .int .i64 LB), (7, .int .i64 LT)] H [LS, LR] F a w ∧ (xh 5 (ci .u8) 1 LO LF LQ LR) ∧ (xZ LS LE ([.slice LO LF.length LQ]) 62) ∧ (qG.l3 K LB L9 LF LI LT).wp kr kp) K ?_ ?_ ?_
   ·exact ⟨LN, LP, LC.B_, LK, LJ, LD, (0 : Int), hS.to [0, 1] (by kernel_rfl) ⟨rfl, rfl, rfl, rfl, trivial⟩, LY, LV, hM⟩
   ·intro a w hI; obtain ⟨_, _, _, _, _, _, _, _, _, _, hM⟩ := hI; exact zr hM
   ·intro L9 a w hI Mr Mc
    obtain ⟨LO, LQ, LF, LR, LS, LI, LT, hS, LZ, LM, hM⟩ := hI
    rw [qG.l3] at hM
    refine wp_seq <| qk <| sM hS rfl fun hS => sM hS rfl fun hS => sB hS rfl fun hS => qz <| qy hS rfl hM (fun Mg hM => ?_) (fun Mg hM => ?_)
    ·refine wp_skip ?_
     refine qc <| wp_seq <| xJ <| qk <| sM hS rfl fun hS => sM hS rfl fun hS => sO hS (yu rfl) rfl fun hS => sO hS (xr rfl Tryd.runUnderlying62 rfl Tryd.sizeOf38 rfl) rfl fun hS => sO hS (xW 0 rfl LM rfl rfl Tryd.isAgg38) rfl fun hS => sM hS rfl fun hS => sO hS (rem rfl rfl rfl) rfl fun hS => sO hS (vH rfl Tryd.runUnderlying53 Tryd.runUnderlying5) rfl fun hS => Xs (g := (ci .u8)) ([(wr .u8 (yk LI (2 : Int)))] : List Int) [.int .u8 (wr .u8 (yk LI (2 : Int)))] hS Tryd.runUnderlying38 Tryd.sizeOf5 X.el5 rfl rfl rfl (by simp [Value.cells]) rfl rfl rfl rfl rfl fun w Mn Ms Mt Md hS => ?_
     obtain ⟨Mi, hM⟩ := qE hM
     refine Yk (ys := ([(wr .u8 (yk LI (2 : Int)))] : List Int)) 2 hS rfl rfl LZ rfl (Md.rd (i := 0) rfl) Tryd.runUnderlying38 Tryd.runUnderlying38 X.el5 (fun _ => rfl) rfl uA Mi rfl fun L1 w L3 L5 Mj hz Me hS => ?_
     have hM := qB hz hM; clear hz
     refine sO hS (yu rfl) rfl fun hS => sO hS (xr rfl Tryd.runUnderlying62 rfl Tryd.sizeOf38 rfl) rfl fun hS => U8 1 ([.slice L3 L1.length L5]) hS rfl rfl LM rfl rfl rfl rfl Tryd.sizeOf38 fun w Mk Mb hS => qz <| zI <| sM hS rfl fun hS => sO hS (quo rfl rfl rfl) rfl fun hS => zH (v := Value.int .u32) (x0 := (xA .u32 LI (2 : Int))) hS (xv rfl) rfl fun Mm a w hz hS => ?_
     have hM := qB hz hM; clear hz
     refine zd <| zz (qc ?_)
     refine zI <| sM hS rfl fun hS => sB hS rfl fun hS => zH (v := Value.int .i64) (x0 := (qi (LT + (1 : Int)))) hS (xv rfl) rfl fun Ml a w hz hS => ?_
     have hM := qB hz hM; clear hz
     refine zd <| qc ?_
     exact Mc _ _ ⟨L3, L5, L1, Mj, Mk, Mm, Ml, hS.to [1, 2] (by kernel_rfl) ⟨rfl, rfl, rfl, rfl, trivial⟩, Me, Mb, hM⟩
    ·refine wp_exit ?_
     refine qC (qC (q9 (qc ?_)))
     refine qk <| sA hS rfl fun hS => qz <| wp_ret ?_
     exact zm (rs := [6]) hS rfl rfl (hret (0 : Int) LO LQ LF LR LS _ (qU hM) LZ LM (hS.st.pick [0, 1] (by kernel_rfl)))
theorem QX {H : xU} {F : List qm} {w : World} {R : Ending → World → Prop} {kr : Bool → Prop} {kp : Value → Prop} (hG : Gl H) (K : Nat) (LB : qv)
    (hS : St w H [] F) (hm : (yJ.m K LB).wp kr kp)
    (hret : ∀ (LD : Bool) (w : World), kr LD → St w H [] F → R (.returned (.bool LD)) w) :
    Calls Tryd.prog 15 ⟨[.agg ⟨[.int .u8 LB.Lit_, .int .i64 LB.Len_, .int .i64 LB.Dist_]⟩]⟩ w R := by
 refine enter Tryd.func15 rfl Tryd.ntmps15 rfl hS fun a w hS => ?_
 have hM := hm; clear hm
 rw [yJ.m] at hM
 refine qk <| bx ([.int .u8 LB.Lit_, .int .i64 LB.Len_, .int .i64 LB.Dist_]) hS rfl rfl rfl fun w LH LI LC hS => sA hS rfl fun hS => qz <| wp_seq <| qk <| sO hS (xr rfl Tryd.runUnderlying32 rfl Tryd.sizeOf3 rfl) rfl fun hS => sO hS (xW 0 rfl LC rfl rfl Tryd.isAgg3) rfl fun hS => sB hS rfl fun hS => qz <| qy hS rfl hM (fun LE hM => ?_) (fun LE hM => ?_)
 ·refine wp_seq ?_
  refine zI <| sO hS (xr rfl Tryd.runUnderlying32 rfl Tryd.sizeOf3 rfl) rfl fun hS => sO hS (xW 0 rfl LC rfl rfl Tryd.isAgg3) rfl fun hS => sB hS rfl fun hS => zH (v := Value.bool) (x0 := (LB.Len_ == (0 : Int))) hS (xv rfl) rfl fun LF a w hz hS => ?_
  have hM := qB hz hM; clear hz
  refine qz <| wp_ret <| qA ?_
  exact zm (rs := [2]) hS rfl rfl (hret LF _ (qU hM) (hS.st.pick [] (by kernel_rfl)))
 ·refine wp_skip ?_
  refine qc <| qk <| sO hS (xr rfl Tryd.runUnderlying32 rfl Tryd.sizeOf3 rfl) rfl fun hS => sO hS (xW 0 rfl LC rfl rfl Tryd.isAgg3) rfl fun hS => sB hS rfl fun hS => sM hS rfl fun hS => yw 3 true 12 (b := (decide (LB.Dist_ ≥ (1 : Int)))) (r := (decide (LB.Dist_ ≤ (32768 : Int)))) hS rfl rfl rfl rfl rfl rfl rfl (fun hb a w hS K hK => ?_) rfl fun a w hS => ?_
  ·refine zK hS rfl rfl rfl hb (xr rfl Tryd.runUnderlying32 rfl Tryd.sizeOf3 rfl) rfl fun a w hS => ?_
   refine zK hS rfl rfl rfl hb (xW 0 rfl LC rfl rfl Tryd.isAgg3) rfl fun a w hS => zK hS rfl rfl rfl hb (yZ rfl rfl rfl) rfl fun a w hS => ?_
   exact zd (hK _ _ (hS.up 3 rfl rfl))
  refine sM hS rfl fun hS => yw 3 true 17 (b := ((decide (LB.Dist_ ≥ (1 : Int))) && (decide (LB.Dist_ ≤ (32768 : Int))))) (r := (decide (LB.Len_ ≥ (3 : Int)))) hS rfl rfl rfl rfl rfl rfl rfl (fun hb a w hS K hK => ?_) rfl fun a w hS => ?_
  ·refine zK hS rfl rfl rfl hb (xr rfl Tryd.runUnderlying32 rfl Tryd.sizeOf3 rfl) rfl fun a w hS => ?_
   refine zK hS rfl rfl rfl hb (xW 0 rfl LC rfl rfl Tryd.isAgg3) rfl fun a w hS => zK hS rfl rfl rfl hb (yZ rfl rfl rfl) rfl fun a w hS => ?_
   exact zd (hK _ _ (hS.up 3 rfl rfl))
  refine sM hS rfl fun hS => yw 3 true 22 (b := (((decide (LB.Dist_ ≥ (1 : Int))) && (decide (LB.Dist_ ≤ (32768 : Int)))) && (decide (LB.Len_ ≥ (3 : Int))))) (r := (decide (LB.Len_ ≤ (258 : Int)))) hS rfl rfl rfl rfl rfl rfl rfl (fun hb a w hS K hK => ?_) rfl fun a w hS => ?_
  ·refine zK hS rfl rfl rfl hb (xr rfl Tryd.runUnderlying32 rfl Tryd.sizeOf3 rfl) rfl fun a w hS => ?_
   refine zK hS rfl rfl rfl hb (xW 0 rfl LC rfl rfl Tryd.isAgg3) rfl fun a w hS => zK hS rfl rfl rfl hb (yZ rfl rfl rfl) rfl fun a w hS => ?_
   exact zd (hK _ _ (hS.up 3 rfl rfl))
  refine sM hS rfl fun hS => yw 3 true 27 (b := ((((decide (LB.Dist_ ≥ (1 : Int))) && (decide (LB.Dist_ ≤ (32768 : Int)))) && (decide (LB.Len_ ≥ (3 : Int)))) && (decide (LB.Len_ ≤ (258 : Int))))) (r := (LB.Lit_ == (0 : Int))) hS rfl rfl rfl rfl rfl rfl rfl (fun hb a w hS K hK => ?_) rfl fun a w hS => ?_
  ·refine zK hS rfl rfl rfl hb (xr rfl Tryd.runUnderlying32 rfl Tryd.sizeOf5 rfl) rfl fun a w hS => ?_
   refine zK hS rfl rfl rfl hb (xW 0 rfl LC rfl rfl Tryd.isAgg5) rfl fun a w hS => zK hS rfl rfl rfl hb (yZ rfl rfl rfl) rfl fun a w hS => ?_
   exact zd (hK _ _ (hS.up 3 rfl rfl))
  refine zH (v := Value.bool) (x0 := (((((decide (LB.Dist_ ≥ (1 : Int))) && (decide (LB.Dist_ ≤ (32768 : Int)))) && (decide (LB.Len_ ≥ (3 : Int)))) && (decide (LB.Len_ ≤ (258 : Int)))) && (LB.Lit_ == (0 : Int)))) hS (xv rfl) rfl fun LG a w hz hS => ?_
  have hM := qB hz hM; clear hz
  refine qz <| wp_ret ?_
  exact zm (rs := [2]) hS rfl rfl (hret LG _ (qU hM) (hS.st.pick [] (by kernel_rfl)))
theorem yO {H : xU} {F : List qm} {w : World} {R : Ending → World → Prop} {kr : (List Int) → Prop} {kp : Value → Prop} (hG : Gl H) (K : Nat) (LH : qQ) (LF : List Int) (LB : List Int) (LC : Int) (LG : Nat) (LR : qm) (LN : Option Addr) (LP : Nat) (LS : qm) (LZ : Option Addr) (L1 : Nat) (LO : Option Addr) (LQ : Nat) (Mc : xZ LR LG ([.slice LN LH.B_.length LP]) 62) (Me : xh 5 (ci .u8) 1 LN LH.B_ LP LS) (LX : jn H [] F (ci .i64) LZ LF) (Ml : LF.length ≤ L1) (LY : jn H [] F (ci .i64) LO LB) (Mm : LB.length ≤ LQ)
    (hS : St w H [LR, LS] F) (hm : (xe.m K LH LF LB LC).wp kr kp)
    (hret : ∀ (L0 : Option Addr) (L3 : Nat) (LM : (List Int)) (L6 : qm) (L7 : qm) (w : World), kr LM → (xh 5 (ci .u8) 1 L0 LM L3 L6) → (xZ L7 LG ([.slice L0 LM.length L3]) 62) → St w H [L7, L6] F → R (.returned (.tuple ⟨[]⟩)) w) :
    Calls Tryd.prog 29 ⟨[qO LG 0, .slice LZ LF.length L1, .slice LO LB.length LQ, .int .i64 LC]⟩ w R := by
 refine enter Tryd.func29 rfl Tryd.ntmps29 rfl hS fun a w hS => ?_
 have hM := hm; clear hm
 rw [xe.m] at hM
 refine qk <| sM hS rfl fun hS => sM hS rfl fun hS => ?_
 obtain ⟨LV, hM⟩ := qE hM
 refine sO hS (x6 rfl rfl Tryd.runUnderlying45 Tryd.sizeOf3 LX.wk (fun _ => rfl) rfl LV) rfl fun hS => sO hS (x9 rfl LX.wk (fun _ => rfl) LV rfl Tryd.isAgg3) rfl fun hS => sB hS rfl fun hS => zH (v := Value.int .i64) (x0 := (qi ((rd LF LC) - (1 : Int)))) hS (xv rfl) rfl fun L9 a w hz hS => ?_
 have hM := qB hz hM; clear hz
 refine qz <| xJ <| zv (fun L8 a w => ∃ (LI : Option Addr) (LJ : Nat) (LD : (List Int)) (LK : qm) (LL : qm) (LE : Int), Ss 29 [] [(0, qO LG 0), (2, .slice LO LB.length LQ), (3, .int .i64 LC), (8, .int .i64 LE)] H [LL, LK] F a w ∧ (xh 5 (ci .u8) 1 LI LD LJ LK) ∧ (xZ LL LG ([.slice LI LD.length LJ]) 62) ∧ (xe.l1 K LB LC L8 LD LE).wp kr kp) K ?_ ?_ ?_
 ·exact ⟨LN, LP, LH.B_, LS, LR, L9, hS.to [0, 1] (by kernel_rfl) ⟨rfl, rfl, rfl, rfl, trivial⟩, Me, Mc, hM⟩
 ·intro a w hI; obtain ⟨_, _, _, _, _, _, _, _, _, hM⟩ := hI; exact zr hM
 ·intro L8 a w hI Mn Md
  obtain ⟨LI, LJ, LD, LK, LL, LE, hS, LU, LT, hM⟩ := hI
  rw [xe.l1] at hM
  refine wp_seq <| qk <| sM hS rfl fun hS => sB hS rfl fun hS => qz <| qy hS rfl hM (fun Mf hM => ?_) (fun Mf hM => ?_)
  ·refine wp_skip ?_
   refine qc <| wp_seq <| xJ <| zI <| sM hS rfl fun hS => sM hS rfl fun hS => sM hS rfl fun hS => ?_
   obtain ⟨LW, hM⟩ := qE hM
   refine sO hS (x6 rfl rfl Tryd.runUnderlying45 Tryd.sizeOf3 LY.wk (fun _ => rfl) rfl LW) rfl fun hS => sO hS (x9 rfl LY.wk (fun _ => rfl) LW rfl Tryd.isAgg3) rfl fun hS => sO hS (vH rfl Tryd.runUnderlying3 Tryd.runUnderlying53) rfl fun hS => sM hS rfl fun hS => sO hS (vH rfl Tryd.runUnderlying3 Tryd.runUnderlying39) rfl fun hS => ?_
   obtain ⟨Mg, hM⟩ := qE hM
   refine sO hS (shr rfl rfl Mg) rfl fun hS => sO hS (rem rfl rfl rfl) rfl fun hS => qK hS rfl Tryd.call28 (yc hG K (qQ.mk LD) (yk (xF .u32 (wr .u32 (rd LB LC)) (wr .u64 LE)) (2 : Int)) (1 : Int) LG LL LI LJ LK LT LU (hS.st.part 2 [0, 1] (by kernel_rfl)) (qx hM) (fun Mp Mh Mi Ma L4 L5 w hM Mj Mk hst => qJ hS.ev hst.appF rfl fun hS => ?_))
   replace hS : Ss _ _ _ H [L5, L4] F _ _ := hS
   refine zd <| zz (qc ?_)
   refine zI <| sM hS rfl fun hS => sB hS rfl fun hS => zH (v := Value.int .i64) (x0 := (qi (LE - (1 : Int)))) hS (xv rfl) rfl fun Mb a w hz hS => ?_
   have hM := qB hz hM; clear hz
   refine zd <| qc ?_
   exact Md _ _ ⟨Mh, Mi, Ma, L4, L5, Mb, hS.to [0, 1] (by kernel_rfl) ⟨rfl, rfl, rfl, rfl, trivial⟩, Mj, Mk, hM⟩
  ·refine wp_exit ?_
   refine qC (qC (q9 ?_))
   exact vg (rs := []) hS rfl rfl (hret LI LJ LD LK LL _ (qU hM) LU LT (hS.st.pick [0, 1] (by kernel_rfl)))
theorem vy {H : xU} {F : List qm} {w : World} {R : Ending → World → Prop} {kr : Int → Prop} {kp : Value → Prop} (hG : Gl H) (K : Nat) (LD : Int)
    (hS : St w H [] F) (hm : (zA.m K LD).wp kr kp)
    (hret : ∀ (LG : Int) (w : World), kr LG → St w H [] F → R (.returned (.int .i64 LG)) w) :
    Calls Tryd.prog 30 ⟨[.int .i64 LD]⟩ w R := by
 refine enter Tryd.func30 rfl Tryd.ntmps30 rfl hS fun a w hS => ?_
 have hM := hm; clear hm
 rw [zA.m] at hM
 refine qk <| sA hS rfl fun hS => qz <| wp_seq <| qk <| sM hS rfl fun hS => sB hS rfl fun hS => qz <| qy hS rfl hM (fun LH hM => ?_) (fun LH hM => ?_)
 ·refine wp_seq ?_
  refine zI <| sA hS rfl fun hS => qz <| wp_ret <| qA ?_
  exact zm (rs := [2]) hS rfl rfl (hret (285 : Int) _ (qU hM) (hS.st.pick [] (by kernel_rfl)))
 ·refine wp_skip ?_
  refine qc <| qk <| sA hS rfl fun hS => qz <| wp_seq <| qk <| sA hS rfl fun hS => qz <| xJ <| zv (fun LF a w => ∃ (LB : Int) (LC : Int), Ss 23 [] [(0, .int .i64 LD), (3, .int .i64 LB), (4, .int .i64 LC)] H [] F a w ∧ (zA.l1 K LD LF LB LC).wp kr kp) K ?_ ?_ ?_
  ·exact ⟨(257 : Int), (257 : Int), hS.to [] (by kernel_rfl) ⟨rfl, rfl, rfl, trivial⟩, hM⟩
  ·intro a w hI; obtain ⟨_, _, _, hM⟩ := hI; exact zr hM
  ·intro LF a w hI LM LE
   obtain ⟨LB, LC, hS, hM⟩ := hI
   rw [zA.l1] at hM
   refine wp_seq <| qk <| sM hS rfl fun hS => sB hS rfl fun hS => qz <| qy hS rfl hM (fun LI hM => ?_) (fun LI hM => ?_)
   ·refine wp_skip ?_
    refine qc <| wp_seq <| xJ <| qk <| sM hS rfl fun hS => qK hS rfl Tryd.call32 (yW hG K LC (hS.st.part 0 [] (by kernel_rfl)) (qx hM) (fun LN LO w hM  hst => qJ hS.ev hst.appF rfl fun hS => ?_))
    replace hS : Ss _ _ _ H [] F _ _ := hS
    refine sM hS rfl fun hS => sO hS (ex rfl rfl) rfl fun hS => sO hS (ex rfl rfl) rfl fun hS => sA hS rfl fun hS => sA hS rfl fun hS => qz <| qk <| sM hS rfl fun hS => sM hS rfl fun hS => sB hS rfl fun hS => qz <| qy hS rfl hM (fun LJ hM => ?_) (fun LJ hM => ?_)
    ·refine zI ?_
     refine sM hS rfl fun hS => sA hS rfl fun hS => zd <| zz (qc ?_)
     refine zI <| sM hS rfl fun hS => sB hS rfl fun hS => zH (v := Value.int .i64) (x0 := (qi (LC + (1 : Int)))) hS (xv rfl) rfl fun LK a w hz hS => ?_
     have hM := qB hz hM; clear hz
     refine zd <| qc ?_
     exact LE _ _ ⟨LC, LK, hS.to [] (by kernel_rfl) ⟨rfl, rfl, rfl, trivial⟩, hM⟩
    ·refine wp_skip ?_
     refine zz (qc ?_)
     refine zI <| sM hS rfl fun hS => sB hS rfl fun hS => zH (v := Value.int .i64) (x0 := (qi (LC + (1 : Int)))) hS (xv rfl) rfl fun LL a w hz hS => ?_
     have hM := qB hz hM; clear hz
     refine zd <| qc ?_
     exact LE _ _ ⟨LB, LL, hS.to [] (by kernel_rfl) ⟨rfl, rfl, rfl, trivial⟩, hM⟩
   ·refine wp_exit ?_
    refine qC (qC (q9 (qc ?_)))
    refine qk <| sM hS rfl fun hS => sA hS rfl fun hS => qz <| wp_ret ?_
    exact zm (rs := [2]) hS rfl rfl (hret LB _ (qU hM) (hS.st.pick [] (by kernel_rfl)))
theorem ua {H : xU} {F : List qm} {w : World} {R : Ending → World → Prop} {kr : Int → Prop} {kp : Value → Prop} (hG : Gl H) (K : Nat) (LD : Int)
    (hS : St w H [] F) (hm : (zL.m K LD).wp kr kp)
    (hret : ∀ (LG : Int) (w : World), kr LG → St w H [] F → R (.returned (.int .i64 LG)) w) :
    Calls Tryd.prog 31 ⟨[.int .i64 LD]⟩ w R := by
 refine enter Tryd.func31 rfl Tryd.ntmps31 rfl hS fun a w hS => ?_
 have hM := hm; clear hm
 rw [zL.m] at hM
 refine qk <| sA hS rfl fun hS => qz <| qk <| sA hS rfl fun hS => qz <| wp_seq <| qk <| sA hS rfl fun hS => qz <| xJ <| zv (fun LF a w => ∃ (LB : Int) (LC : Int), Ss 21 [] [(0, .int .i64 LD), (3, .int .i64 LB), (4, .int .i64 LC)] H [] F a w ∧ (zL.l1 K LD LF LB LC).wp kr kp) K ?_ ?_ ?_
 ·exact ⟨(0 : Int), (0 : Int), hS.to [] (by kernel_rfl) ⟨rfl, rfl, rfl, trivial⟩, hM⟩
 ·intro a w hI; obtain ⟨_, _, _, hM⟩ := hI; exact zr hM
 ·intro LF a w hI LL LE
  obtain ⟨LB, LC, hS, hM⟩ := hI
  rw [zL.l1] at hM
  refine wp_seq <| qk <| sM hS rfl fun hS => sB hS rfl fun hS => qz <| qy hS rfl hM (fun LH hM => ?_) (fun LH hM => ?_)
  ·refine wp_skip ?_
   refine qc <| wp_seq <| xJ <| qk <| sM hS rfl fun hS => qK hS rfl Tryd.call33 (yI hG K LC (hS.st.part 0 [] (by kernel_rfl)) (qx hM) (fun LM LN w hM  hst => qJ hS.ev hst.appF rfl fun hS => ?_))
   replace hS : Ss _ _ _ H [] F _ _ := hS
   refine sM hS rfl fun hS => sO hS (ex rfl rfl) rfl fun hS => sO hS (ex rfl rfl) rfl fun hS => sA hS rfl fun hS => sA hS rfl fun hS => qz <| qk <| sM hS rfl fun hS => sM hS rfl fun hS => sB hS rfl fun hS => qz <| qy hS rfl hM (fun LI hM => ?_) (fun LI hM => ?_)
   ·refine zI ?_
    refine sM hS rfl fun hS => sA hS rfl fun hS => zd <| zz (qc ?_)
    refine zI <| sM hS rfl fun hS => sB hS rfl fun hS => zH (v := Value.int .i64) (x0 := (qi (LC + (1 : Int)))) hS (xv rfl) rfl fun LJ a w hz hS => ?_
    have hM := qB hz hM; clear hz
    refine zd <| qc ?_
    exact LE _ _ ⟨LC, LJ, hS.to [] (by kernel_rfl) ⟨rfl, rfl, rfl, trivial⟩, hM⟩
   ·refine wp_skip ?_
    refine zz (qc ?_)
    refine zI <| sM hS rfl fun hS => sB hS rfl fun hS => zH (v := Value.int .i64) (x0 := (qi (LC + (1 : Int)))) hS (xv rfl) rfl fun LK a w hz hS => ?_
    have hM := qB hz hM; clear hz
    refine zd <| qc ?_
    exact LE _ _ ⟨LB, LK, hS.to [] (by kernel_rfl) ⟨rfl, rfl, rfl, trivial⟩, hM⟩
  ·refine wp_exit ?_
   refine qC (qC (q9 (qc ?_)))
   refine qk <| sM hS rfl fun hS => sA hS rfl fun hS => qz <| wp_ret ?_
   exact zm (rs := [2]) hS rfl rfl (hret LB _ (qU hM) (hS.st.pick [] (by kernel_rfl)))
theorem vl {H : xU} {F : List qm} {w : World} {R : Ending → World → Prop} {kr : (List UInt8) → Prop} {kp : Value → Prop} (hG : Gl H) (K : Nat) (LD : qQ) (LF : Nat) (LM : qm) (LI : Option Addr) (LL : Nat) (LN : qm) (LK : xZ LM LF ([.slice LI LD.B_.length LL]) 62) (LP : xh 5 (ci .u8) 1 LI LD.B_ LL LN)
    (hS : St w H [LM, LN] F) (hm : (zC.m K LD).wp kr kp)
    (hret : ∀ (LT : List UInt8) (w : World), kr LT → St w H [LM, LN] F → R (.returned (yb LT)) w) :
    Calls Tryd.prog 34 ⟨[qO LF 0]⟩ w R := by
 refine enter Tryd.func34 rfl Tryd.ntmps34 rfl hS fun a w hS => ?_
 have hM := hm; clear hm
 rw [zC.m] at hM
 refine qk <| sA hS rfl fun hS => qz <| qk <| sM hS rfl fun hS => sO hS (yu rfl) rfl fun hS => sO hS (xr rfl Tryd.runUnderlying62 rfl Tryd.sizeOf38 rfl) rfl fun hS => sO hS (xW 0 rfl LK rfl rfl Tryd.isAgg38) rfl fun hS => sO hS (ya rfl Tryd.runUnderlying38) rfl fun hS => sB hS rfl fun hS => sO hS (quo rfl rfl rfl) rfl fun hS => ?_
 obtain ⟨LY, hM⟩ := qE hM
 refine Ui (g := (ci .u8)) (m := (xA .i64 (qi ((LD.B_.length : Int) + (7 : Int))) (8 : Int))) (0 : Int) hS rfl rfl (by simp) Tryd.runUnderlying38 X.el5 (fun w => ⟨_, Tryd.zeroValue5 w, rfl⟩) (fun _ => rfl) rfl rfl LY rfl fun L1 w LE LG L3 hz LV hS => ?_
 have hM := qB hz hM; clear hz
 refine sA hS rfl fun hS => qz <| wp_seq <| qk <| sA hS rfl fun hS => qz <| xJ <| zv (fun LS a w => ∃ (LC : (List Int)) (LO : qm) (LB : Int), Ss 45 [] [(0, qO LF 0), (3, .slice LE LC.length LG), (4, .int .i64 LB)] H [LM, LN, LO] F a w ∧ (xh 5 (ci .u8) 1 LE LC LG LO) ∧ (zC.l1 K LD LS LC LB).wp kr kp) K ?_ ?_ ?_
 ·exact ⟨L1, L3, (0 : Int), hS.to [1, 2, 0] (by kernel_rfl) ⟨rfl, rfl, rfl, trivial⟩, LV, hM⟩
 ·intro a w hI; obtain ⟨_, _, _, _, _, hM⟩ := hI; exact zr hM
 ·intro LS a w hI L7 LU
  obtain ⟨LC, LO, LB, hS, LH, hM⟩ := hI
  rw [zC.l1] at hM
  refine wp_seq <| qk <| sM hS rfl fun hS => sM hS rfl fun hS => sO hS (yu rfl) rfl fun hS => sO hS (xr rfl Tryd.runUnderlying62 rfl Tryd.sizeOf38 rfl) rfl fun hS => sO hS (xW 0 rfl LK rfl rfl Tryd.isAgg38) rfl fun hS => sO hS (ya rfl Tryd.runUnderlying38) rfl fun hS => sB hS rfl fun hS => qz <| qy hS rfl hM (fun LX hM => ?_) (fun LX hM => ?_)
  ·refine wp_skip ?_
   refine qc <| wp_seq <| xJ ?_
   obtain ⟨LJ, hM⟩ := qE hM
   obtain ⟨LQ, hM⟩ := qE hM
   obtain ⟨LZ, hM⟩ := qE hM
   refine zh (vals := [some (.slice LE LC.length LG), some (.int .i64 LB), some (.int .i64 (xA .i64 LB (8 : Int))), some (.slice LE LC.length LG), some (.int .i64 LB), some (.int .i64 (xA .i64 LB (8 : Int))), some (xz LE (Int.toNat (xA .i64 LB (8 : Int)) * 1)), some (.int .u8 (rd LC (xA .i64 LB (8 : Int)))), some (qO LF 0), some (qO LF 0), some (qO LF 0), some (.slice LI LD.B_.length LL), some (.int .i64 LB), some (xz LI (Int.toNat LB * 1)), some (.int .u8 (rd LD.B_ LB)), some (.int .i64 LB), some (.int .i64 (yk LB (8 : Int))), some (.int .u64 (wr .u64 (yk LB (8 : Int)))), some (.int .u8 (xl .u8 (rd LD.B_ LB) (wr .u64 (yk LB (8 : Int))))), some (.int .u8 (wr .u8 ((rd LC (xA .i64 LB (8 : Int))) + (xl .u8 (rd LD.B_ LB) (wr .u64 (yk LB (8 : Int))))))), some (xz LE (Int.toNat (xA .i64 LB (8 : Int)) * 1)), none]) hS xH rfl ?_
   intro l w ho hcl hA hst
   refine jQ hA hst ho hcl xQ xI 21 [0, 1, 2, 3, 4, 5, 6, 7, 8, 9, 10, 11, 12, 13, 14, 15, 16, 17, 18, 19, 20] rfl rfl rfl rfl rfl (by exact ⟨nM rfl, nM rfl, nQ rfl (by exact qY (quo rfl rfl rfl) rfl), nM rfl, nM rfl, nQ rfl (by exact qY (quo rfl rfl rfl) rfl), nQ rfl (by exact qY (x6 rfl rfl Tryd.runUnderlying38 Tryd.sizeOf5 (LH.rd (i := 2) rfl) (fun _ => rfl) rfl LJ) rfl), nQ rfl (by exact qY (x9 rfl (LH.rd (i := 2) rfl) (fun _ => rfl) LJ rfl Tryd.isAgg5) rfl), nM rfl, nQ rfl (by exact qY (yu rfl) rfl), nQ rfl (by exact qY (xr rfl Tryd.runUnderlying62 rfl Tryd.sizeOf38 rfl) rfl), nQ rfl (by exact qY (xW 0 rfl LK rfl rfl Tryd.isAgg38) rfl), nM rfl, nQ rfl (by exact qY (x6 rfl rfl Tryd.runUnderlying38 Tryd.sizeOf5 (LP.rd (i := 1) rfl) (fun _ => rfl) rfl LQ) rfl), nQ rfl (by exact qY (x9 rfl (LP.rd (i := 1) rfl) (fun _ => rfl) LQ rfl Tryd.isAgg5) rfl), nM rfl, nQ rfl (by exact qY (rem rfl rfl rfl) rfl), nQ rfl (by exact qY (vH rfl Tryd.runUnderlying3 Tryd.runUnderlying39) rfl), nQ rfl (by exact qY (shl rfl rfl LZ) rfl), nB rfl, nQ rfl (by exact qY (x6 rfl rfl Tryd.runUnderlying38 Tryd.sizeOf5 (LH.rd (i := 2) rfl) (fun _ => rfl) rfl LJ) rfl), trivial⟩) fun D l a w ho hcl hav hpre hm hE hk hA hst => ?_
   have hS := (Ss.mk hE hst).env2 (e' := [(41, .int .u8 (wr .u8 ((rd LC (xA .i64 LB (8 : Int))) + (xl .u8 (rd LD.B_ LB) (wr .u64 (yk LB (8 : Int))))))), (42, xz LE (Int.toNat (xA .i64 LB (8 : Int)) * 1))]) ⟨rfl, rfl, trivial⟩
   refine zi rfl <| Xj (i := (xA .i64 LB (8 : Int))) (sz := 1) 2 0 ((wr .u8 ((rd LC (xA .i64 LB (8 : Int))) + (xl .u8 (rd LD.B_ LB) (wr .u64 (yk LB (8 : Int))))))) hS rfl rfl LH rfl Tryd.sizeOf5 (uA (wr .u8 ((rd LC (xA .i64 LB (8 : Int))) + (xl .u8 (rd LD.B_ LB) (wr .u64 (yk LB (8 : Int))))))) (fun _ => rfl) LJ rfl rfl fun LR w L4 hz L0 LW hS => ?_
   have hM := qB hz hM; clear hz
   refine qz ?_
   replace hst := hS.st
   obtain ⟨hcl, hmust, hav2, hA⟩ := Jy (vals' := [some (.slice LE LC.length LG), some (.int .i64 LB), some (.int .i64 (xA .i64 LB (8 : Int))), some (.slice LE LC.length LG), some (.int .i64 LB), some (.int .i64 (xA .i64 LB (8 : Int))), some (xz LE (Int.toNat (xA .i64 LB (8 : Int)) * 1)), some (.int .u8 (rd LC (xA .i64 LB (8 : Int)))), some (qO LF 0), some (qO LF 0), some (qO LF 0), some (.slice LI LD.B_.length LL), some (.int .i64 LB), some (xz LI (Int.toNat LB * 1)), some (.int .u8 (rd LD.B_ LB)), some (.int .i64 LB), some (.int .i64 (yk LB (8 : Int))), some (.int .u64 (wr .u64 (yk LB (8 : Int)))), some (.int .u8 (xl .u8 (rd LD.B_ LB) (wr .u64 (yk LB (8 : Int))))), some (.int .u8 (wr .u8 ((rd LC (xA .i64 LB (8 : Int))) + (xl .u8 (rd LD.B_ LB) (wr .u64 (yk LB (8 : Int))))))), some (xz LE (Int.toNat (xA .i64 LB (8 : Int)) * 1)), some undef]) 21 [(0, 21), (1, 21), (2, 21), (3, 21), (4, 21), (5, 21), (6, 21), (7, 21), (8, 21), (9, 21), (10, 21), (11, 21), (12, 21), (13, 21), (14, 21), (15, 21), (16, 21), (17, 21), (18, 21), (19, 21), (20, 21)] hA hcl hav hm hpre rfl rfl rfl rfl rfl
   clear hm hav
   refine yo hA hst ho hcl hmust [] rfl rfl rfl trivial fun a w hS => ?_
   replace hS := hS.env2 (e' := [(0, qO LF 0), (3, .slice LE LR.length LG), (4, .int .i64 LB)]) ⟨rfl, (U1 (u := .slice LE LC.length LG) rfl (by rw [L0])), rfl, trivial⟩
   refine zz (qc ?_)
   refine zI <| sM hS rfl fun hS => sB hS rfl fun hS => zH (v := Value.int .i64) (x0 := (qi (LB + (1 : Int)))) hS (xv rfl) rfl fun L5 a w hz hS => ?_
   have hM := qB hz hM; clear hz
   refine zd <| qc ?_
   exact LU _ _ ⟨LR, L4, L5, hS.to [0, 1, 2] (by kernel_rfl) ⟨rfl, rfl, rfl, trivial⟩, LW, hM⟩
  ·refine wp_exit ?_
   refine qC (qC (q9 (qc ?_)))
   refine qk <| sM hS rfl fun hS => sO hS (Gq rfl Tryd.runUnderlying38 Tryd.runUnderlying5 Tryd.runUnderlying9 (LH.rd (i := 2) rfl)) rfl fun hS => zH (v := yb) (x0 := (LC.map Q5)) hS (xv rfl) rfl fun L6 a w hz hS => ?_
   have hM := qB hz hM; clear hz
   refine qz <| wp_ret ?_
   exact zm (rs := [2]) hS rfl rfl (hret L6 _ (qU hM) (hS.st.pick [0, 1] (by kernel_rfl)))
theorem Qu {H : xU} {F : List qm} {w : World} {R : Ending → World → Prop} {kr : ((List UInt8) × Int) → Prop} {kp : Value → Prop} (hG : Gl H) (K : Nat) (LB : List qv) (L7 : Option Addr) (L9 : Nat) (Mf : jn H [] F qv.cells L7 LB) (Nw : LB.length ≤ L9)
    (hS : St w H [] F) (hm : (zJ.m K LB).wp kr kp)
    (hret : ∀ (MA : List UInt8) (MB : Int) (w : World), kr (MA, MB) → St w H [] F → R (.returned (.tuple ⟨[yb MA, .int .i64 MB]⟩)) w) :
    Calls Tryd.prog 13 ⟨[.slice L7 LB.length L9]⟩ w R := by
 refine enter Tryd.func13 rfl Tryd.ntmps13 rfl hS fun a w hS => ?_
 have hM := hm; clear hm
 rw [zJ.m] at hM
 refine qk <| sA hS rfl fun hS => sA hS rfl fun hS => qz <| qk <| qK hS rfl Tryd.call26 (ve hG K  (hS.st.part 0 [] (by kernel_rfl)) (qx hM) (fun LR LT LO LD L8 Ma L6 LF w hM LN L5 hst => qJ hS.ev hst.appF rfl fun hS => ?_))
 replace hS : Ss _ _ _ H [LD, LF] F _ _ := hS
 refine sM hS rfl fun hS => sO hS (ex rfl rfl) rfl fun hS => sO hS (ex rfl rfl) rfl fun hS => sA hS rfl fun hS => sA hS rfl fun hS => qz <| qk <| sM hS rfl fun hS => qK hS rfl Tryd.call27 (jc hG K LO LR LT (LN.rdF (i := 0) rfl) (LN.cap (fun _ => rfl) rfl) (hS.st.part 0 [0, 1] (by kernel_rfl)) (qx hM) (fun LW LX LQ LE NB w hM LV hst => qJ hS.ev hst.appF rfl fun hS => ?_))
 replace hS : Ss _ _ _ H [LE, LD, LF] F _ _ := hS
 refine sM hS rfl fun hS => sO hS (ex rfl rfl) rfl fun hS => sO hS (ex rfl rfl) rfl fun hS => sA hS rfl fun hS => sA hS rfl fun hS => qz <| qk <| sM hS rfl fun hS => qK hS rfl Tryd.call27 (jc hG K L6 L8 Ma (L5.rdF (i := 2) rfl) (L5.cap (fun _ => rfl) rfl) (hS.st.part 0 [0, 1, 2] (by kernel_rfl)) (qx hM) (fun Mh Mi Mg LG NC w hM Mw hst => qJ hS.ev hst.appF rfl fun hS => ?_))
 replace hS : Ss _ _ _ H [LG, LE, LD, LF] F _ _ := hS
 refine sM hS rfl fun hS => sO hS (ex rfl rfl) rfl fun hS => sO hS (ex rfl rfl) rfl fun hS => sA hS rfl fun hS => sA hS rfl fun hS => qz <| qk <| sO hS (Zq ([.slice none 0 0]) [(0, 1)] Tryd.zeroValue62 Tryd.runUnderlying62 (by intro w; simp [Tryd.sizeOf38]) rfl rfl) rfl fun hS => bx ([.slice none 0 0]) hS rfl rfl rfl fun w LH M8 MJ hS => ?_
 obtain ⟨M9, MN, hS⟩ := hS.nilV 5 (ci .u8) 1
 refine sA hS rfl fun hS => qz <| qk <| sM hS rfl fun hS => qK hS rfl Tryd.call28 (yc hG K (qQ.mk ([] : List Int)) (3 : Int) (3 : Int) LH M8 none (0) M9 MJ MN (hS.st.part 2 [1, 0, 2, 3, 4, 5] (by kernel_rfl)) (qx hM) (fun ND MS MZ MC Mj Mk w hM Na Nb hst => qJ hS.ev hst.appF rfl fun hS => ?_))
 replace hS : Ss _ _ _ H [Mk, Mj, LG, LE, LD, LF] F _ _ := hS
 refine qz <| zx (fun a w => ∃ (L0 : Option Addr) (L1 : Nat) (LP : (List Int)) (L3 : qm) (L4 : qm), Ss 110 [] [(4, .slice LR LO.length LT), (6, .slice LW LQ.length LX), (10, qO LH 0)] H [LD, LE, L4, L3] F a w ∧ (xh 5 (ci .u8) 1 L0 LP L1 L3) ∧ (xZ L4 LH ([.slice L0 LP.length L1]) 62) ∧ (zJ.j2 K LO LQ LP).wp kr kp) (fun Ny MM => ?_) ?_
 ·refine wp_seq ?_
  refine zI <| sA hS rfl fun hS => qz <| xJ <| zv (fun Mx a w => ∃ (LS : Option Addr) (LU : Nat) (LL : (List Int)) (LI : qm) (LJ : qm) (LC : Int), Ss 110 [] [(0, .slice L7 LB.length L9), (4, .slice LR LO.length LT), (5, .slice L8 L6.length Ma), (6, .slice LW LQ.length LX), (8, .slice Mh Mg.length Mi), (10, qO LH 0), (11, .int .i64 LC)] H [LD, LF, LE, LG, LJ, LI] F a w ∧ (xh 5 (ci .u8) 1 LS LL LU LI) ∧ (xZ LJ LH ([.slice LS LL.length LU]) 62) ∧ (zJ.l1 K LB LO L6 LQ Mg Mx LL LC).wp kr kp) K ?_ ?_ ?_
  ·exact ⟨MS, MZ, MC, Mj, Mk, (0 : Int), hS.to [4, 5, 3, 2, 0, 1] (by kernel_rfl) ⟨rfl, rfl, rfl, rfl, rfl, rfl, rfl, trivial⟩, Na, Nb, hM⟩
  ·intro a w hI; obtain ⟨_, _, _, _, _, _, _, _, _, hM⟩ := hI; exact zr hM
  ·intro Mx a w hI Nx Md
   obtain ⟨LS, LU, LL, LI, LJ, LC, hS, LZ, LY, hM⟩ := hI
   rw [zJ.l1] at hM
   refine wp_seq <| qk <| sM hS rfl fun hS => sM hS rfl fun hS => sO hS (ya rfl Tryd.runUnderlying25) rfl fun hS => sB hS rfl fun hS => qz <| qy hS rfl hM (fun MP hM => ?_) (fun MP hM => ?_)
   ·refine wp_skip ?_
    refine qc <| wp_seq <| xJ <| qk <| sM hS rfl fun hS => sM hS rfl fun hS => ?_
    obtain ⟨Me, hM⟩ := qE hM
    refine sO hS (x6 rfl rfl Tryd.runUnderlying25 Tryd.sizeOf32 Mf.wk (fun _ => rfl) rfl Me) rfl fun hS => sO hS (vS rfl Mf.wk (fun _ => rfl) Me Tryd.isAgg32 Tryd.sizeOf32 rfl) rfl fun hS => QJ ([.int .u8 (0 : Int), .int .i64 (0 : Int), .int .i64 (0 : Int)]) hS Tryd.zeroValue32 rfl rfl fun w Nz NA MK hS => u5 0 ([.int .u8 ((rd LB LC).Lit_), .int .i64 ((rd LB LC).Len_), .int .i64 ((rd LB LC).Dist_)]) ([.int .u8 ((rd LB LC).Lit_), .int .i64 ((rd LB LC).Len_), .int .i64 ((rd LB LC).Dist_)]) hS rfl rfl MK rfl rfl Tryd.sizeOf32 (by simp [Value.oneCell']) (Nat.le_of_ble_eq_true rfl) rfl fun w LK LM hS => qz <| qk <| sO hS (vT 0 rfl LM rfl ([.int .u8 ((rd LB LC).Lit_), .int .i64 ((rd LB LC).Len_), .int .i64 ((rd LB LC).Dist_)]) rfl rfl Tryd.isAgg32 Tryd.sizeOf32) rfl fun hS => qK hS rfl Tryd.call15 (QX hG K (qv.mk ((rd LB LC).Lit_) ((rd LB LC).Len_) ((rd LB LC).Dist_)) (hS.st.part 0 [0, 1, 2, 3, 4, 5, 6] (by kernel_rfl)) (qx hM) (fun NE w hM  hst => qJ hS.ev hst.appF rfl fun hS => ?_))
    replace hS : Ss _ _ _ H [LK, LD, LF, LE, LG, LJ, LI] F _ _ := hS
    refine sA hS rfl fun hS => qz <| wp_seq <| qk <| sM hS rfl fun hS => sO hS (un rfl rfl) rfl fun hS => qz <| qy hS rfl hM (fun MQ hM => ?_) (fun MQ hM => ?_)
    ·refine wp_seq ?_
     refine zI <| sA hS rfl fun hS => sA hS rfl fun hS => qz <| wp_ret <| qA (z3 (qA (qA (z3 (qA ?_)))))
     exact zm (rs := [2, 3]) hS rfl rfl (hret ([] : List UInt8) (1 : Int) _ (qU hM) (hS.st.pick [] (by kernel_rfl)))
    ·refine wp_skip ?_
     refine qc <| wp_seq <| qk <| sO hS (xr rfl Tryd.runUnderlying32 rfl Tryd.sizeOf3 rfl) rfl fun hS => sO hS (xW 0 rfl LM rfl rfl Tryd.isAgg3) rfl fun hS => sB hS rfl fun hS => qz <| qy hS rfl hM (fun MR hM => ?_) (fun MR hM => ?_)
     ·refine wp_seq ?_
      refine zI <| sM hS rfl fun hS => sM hS rfl fun hS => sM hS rfl fun hS => sO hS (xr rfl Tryd.runUnderlying32 rfl Tryd.sizeOf5 rfl) rfl fun hS => sO hS (xW 0 rfl LM rfl rfl Tryd.isAgg5) rfl fun hS => sO hS (vH rfl Tryd.runUnderlying5 Tryd.runUnderlying3) rfl fun hS => qK hS rfl Tryd.call29 (yO hG K (qQ.mk LL) LO LQ (wr .i64 (rd LB LC).Lit_) LH LJ LS LU LI LR LT LW LX LY LZ (LN.rdF (i := 1) rfl) (LN.cap (fun _ => rfl) rfl) (LV.rdF (i := 3) rfl) (LV.cap (fun _ => rfl) rfl) (hS.st.part 2 [5, 6, 0, 1, 2, 3, 4] (by kernel_rfl)) (qx hM) (fun MT M0 MD Ml Mm w hM Nc Nd hst => qJ hS.ev hst.appF rfl fun hS => ?_))
      replace hS : Ss _ _ _ H [Mm, Ml, LK, LD, LF, LE, LG] F _ _ := hS
      refine qz <| wp_exit <| qC (q9 (qc ?_))
      refine zI <| sM hS rfl fun hS => sB hS rfl fun hS => zH (v := Value.int .i64) (x0 := (qi (LC + (1 : Int)))) hS (xv rfl) rfl fun Np a w hz hS => ?_
      have hM := qB hz hM; clear hz
      refine zd <| qc ?_
      exact Md _ _ ⟨MT, M0, MD, Ml, Mm, Np, hS.to [3, 4, 5, 6, 0, 1] (by kernel_rfl) ⟨rfl, rfl, rfl, rfl, rfl, rfl, rfl, trivial⟩, Nc, Nd, hM⟩
     ·refine wp_skip ?_
      refine qc <| qk <| sO hS (xr rfl Tryd.runUnderlying32 rfl Tryd.sizeOf3 rfl) rfl fun hS => sO hS (xW 0 rfl LM rfl rfl Tryd.isAgg3) rfl fun hS => qK hS rfl Tryd.call30 (vy hG K ((rd LB LC).Len_) (hS.st.part 0 [0, 1, 2, 3, 4, 5, 6] (by kernel_rfl)) (qx hM) (fun My w hM  hst => qJ hS.ev hst.appF rfl fun hS => ?_))
      replace hS : Ss _ _ _ H [LK, LD, LF, LE, LG, LJ, LI] F _ _ := hS
      refine sA hS rfl fun hS => qz <| qk <| sO hS (xr rfl Tryd.runUnderlying32 rfl Tryd.sizeOf3 rfl) rfl fun hS => sO hS (xW 0 rfl LM rfl rfl Tryd.isAgg3) rfl fun hS => qK hS rfl Tryd.call31 (ua hG K ((rd LB LC).Dist_) (hS.st.part 0 [0, 1, 2, 3, 4, 5, 6] (by kernel_rfl)) (qx hM) (fun Mz w hM  hst => qJ hS.ev hst.appF rfl fun hS => ?_))
      replace hS : Ss _ _ _ H [LK, LD, LF, LE, LG, LJ, LI] F _ _ := hS
      refine sA hS rfl fun hS => qz <| qk <| sM hS rfl fun hS => qK hS rfl Tryd.call32 (yW hG K My (hS.st.part 0 [0, 1, 2, 3, 4, 5, 6] (by kernel_rfl)) (qx hM) (fun Nr Ns w hM  hst => qJ hS.ev hst.appF rfl fun hS => ?_))
      replace hS : Ss _ _ _ H [LK, LD, LF, LE, LG, LJ, LI] F _ _ := hS
      refine sM hS rfl fun hS => sO hS (ex rfl rfl) rfl fun hS => sO hS (ex rfl rfl) rfl fun hS => sA hS rfl fun hS => sA hS rfl fun hS => qz <| qk <| sM hS rfl fun hS => qK hS rfl Tryd.call33 (yI hG K Mz (hS.st.part 0 [0, 1, 2, 3, 4, 5, 6] (by kernel_rfl)) (qx hM) (fun Nt Nu w hM  hst => qJ hS.ev hst.appF rfl fun hS => ?_))
      replace hS : Ss _ _ _ H [LK, LD, LF, LE, LG, LJ, LI] F _ _ := hS
      refine sM hS rfl fun hS => sO hS (ex rfl rfl) rfl fun hS => sO hS (ex rfl rfl) rfl fun hS => sA hS rfl fun hS => sA hS rfl fun hS => qz <| qk <| sM hS rfl fun hS => sM hS rfl fun hS => sM hS rfl fun hS => sM hS rfl fun hS => qK hS rfl Tryd.call29 (yO hG K (qQ.mk LL) LO LQ My LH LJ LS LU LI LR LT LW LX LY LZ (LN.rdF (i := 1) rfl) (LN.cap (fun _ => rfl) rfl) (LV.rdF (i := 3) rfl) (LV.cap (fun _ => rfl) rfl) (hS.st.part 2 [5, 6, 0, 1, 2, 3, 4] (by kernel_rfl)) (qx hM) (fun MU M3 ME Mn Mp w hM Nf Ng hst => qJ hS.ev hst.appF rfl fun hS => ?_))
      replace hS : Ss _ _ _ H [Mp, Mn, LK, LD, LF, LE, LG] F _ _ := hS
      refine qz <| qk <| sM hS rfl fun hS => sO hS (xr rfl Tryd.runUnderlying32 rfl Tryd.sizeOf3 rfl) rfl fun hS => sO hS (xW 2 rfl LM rfl rfl Tryd.isAgg3) rfl fun hS => sM hS rfl fun hS => sB hS rfl fun hS => sO hS (vH rfl Tryd.runUnderlying3 Tryd.runUnderlying53) rfl fun hS => sM hS rfl fun hS => qK hS rfl Tryd.call28 (yc hG K (qQ.mk ME) (wr .u32 (qi ((rd LB LC).Len_ - Nr))) Ns LH Mp MU M3 Mn Ng Nf (hS.st.part 2 [0, 1, 2, 3, 4, 5, 6] (by kernel_rfl)) (qx hM) (fun NF MV M4 MF Mq Mr w hM Nh Ni hst => qJ hS.ev hst.appF rfl fun hS => ?_))
      replace hS : Ss _ _ _ H [Mr, Mq, LK, LD, LF, LE, LG] F _ _ := hS
      refine qz <| qk <| sM hS rfl fun hS => sM hS rfl fun hS => sM hS rfl fun hS => sM hS rfl fun hS => qK hS rfl Tryd.call29 (yO hG K (qQ.mk MF) L6 Mg Mz LH Mr MV M4 Mq L8 Ma Mh Mi Ni Nh (L5.rdF (i := 2) rfl) (L5.cap (fun _ => rfl) rfl) (Mw.rdF (i := 4) rfl) (Mw.cap (fun _ => rfl) rfl) (hS.st.part 2 [0, 1, 2, 3, 4, 5, 6] (by kernel_rfl)) (qx hM) (fun MW M5 MG Ms Mt w hM Nj Nk hst => qJ hS.ev hst.appF rfl fun hS => ?_))
      replace hS : Ss _ _ _ H [Mt, Ms, LK, LD, LF, LE, LG] F _ _ := hS
      refine qz <| zI <| sM hS rfl fun hS => sO hS (xr rfl Tryd.runUnderlying32 rfl Tryd.sizeOf3 rfl) rfl fun hS => sO hS (xW 2 rfl LM rfl rfl Tryd.isAgg3) rfl fun hS => sM hS rfl fun hS => sB hS rfl fun hS => sO hS (vH rfl Tryd.runUnderlying3 Tryd.runUnderlying53) rfl fun hS => sM hS rfl fun hS => qK hS rfl Tryd.call28 (yc hG K (qQ.mk MG) (wr .u32 (qi ((rd LB LC).Dist_ - Nt))) Nu LH Mt MW M5 Ms Nk Nj (hS.st.part 2 [0, 1, 2, 3, 4, 5, 6] (by kernel_rfl)) (qx hM) (fun NG MX M6 MH Mu Mv w hM Nl Nm hst => qJ hS.ev hst.appF rfl fun hS => ?_))
      replace hS : Ss _ _ _ H [Mv, Mu, LK, LD, LF, LE, LG] F _ _ := hS
      refine zd <| zz (qc ?_)
      refine zI <| sM hS rfl fun hS => sB hS rfl fun hS => zH (v := Value.int .i64) (x0 := (qi (LC + (1 : Int)))) hS (xv rfl) rfl fun Nq a w hz hS => ?_
      have hM := qB hz hM; clear hz
      refine zd <| qc ?_
      exact Md _ _ ⟨MX, M6, MH, Mu, Mv, Nq, hS.to [3, 4, 5, 6, 0, 1] (by kernel_rfl) ⟨rfl, rfl, rfl, rfl, rfl, rfl, rfl, trivial⟩, Nl, Nm, hM⟩
   ·refine wp_exit ?_
    refine qC (qC (q9 (qc ?_)))
    exact MM _ _ ⟨LS, LU, LL, LI, LJ, hS.to [0, 2, 4, 5] (by kernel_rfl) ⟨rfl, rfl, rfl, trivial⟩, LZ, LY, hM⟩
 ·intro a w hI
  obtain ⟨L0, L1, LP, L3, L4, hS, MO, ML, hM⟩ := hI
  rw [zJ.j2] at hM
  refine qk <| sM hS rfl fun hS => sM hS rfl fun hS => sM hS rfl fun hS => qK hS rfl Tryd.call29 (yO hG K (qQ.mk LP) LO LQ (256 : Int) LH L4 L0 L1 L3 LR LT LW LX ML MO (LN.rdF (i := 0) rfl) (LN.cap (fun _ => rfl) rfl) (LV.rdF (i := 1) rfl) (LV.cap (fun _ => rfl) rfl) (hS.st.part 2 [2, 3, 0, 1] (by kernel_rfl)) (qx hM) (fun MY M7 MI Mb Mc w hM Nn No hst => qJ hS.ev hst.appF rfl fun hS => ?_))
  replace hS : Ss _ _ _ H [Mc, Mb, LD, LE] F _ _ := hS
  refine qz <| qk <| sM hS rfl fun hS => qK hS rfl Tryd.call34 (vl hG K (qQ.mk MI) LH Mc MY M7 Mb No Nn (hS.st.part 2 [0, 1, 2, 3] (by kernel_rfl)) (qx hM) (fun Nv w hM  hst => qJ hS.ev hst.appF rfl fun hS => ?_))
  replace hS : Ss _ _ _ H [Mc, Mb, LD, LE] F _ _ := hS
  refine sA hS rfl fun hS => sA hS rfl fun hS => qz <| wp_ret ?_
  exact zm (rs := [2, 3]) hS rfl rfl (hret Nv (0 : Int) _ (qU hM) (hS.st.pick [] (by kernel_rfl)))
theorem vW {H : xU} {F : List qm} {w : World} {R : Ending → World → Prop} {kr : Bool → Prop} {kp : Value → Prop} (hG : Gl H) (K : Nat) (s1 : List UInt8)
    (hS : St w H [] F) (hm : (xa.m K s1).wp kr kp)
    (hret : ∀ (LN : Bool) (w : World), kr LN → St w H [] F → R (.returned (.bool LN)) w)
    (hpan : ∀ v w, kp v → St w H [] F → R (.panicked [⟨v, false, false⟩]) w) :
    Calls Tryd.prog 6 ⟨[yb s1]⟩ w R := by
 refine enter Tryd.func6 rfl Tryd.ntmps6 rfl hS fun a w hS => ?_
 have hM := hm; clear hm
 rw [xa.m] at hM
 refine qk <| sA hS rfl fun hS => qz <| wp_seq <| qk <| sM hS rfl fun hS => sO hS (v8 rfl Tryd.runUnderlying9) rfl fun hS => sB hS rfl fun hS => qz <| qy hS rfl hM (fun hb2 hM => ?_) (fun hb2 hM => ?_)
 ·refine wp_seq ?_
  refine zI <| qK hS rfl Tryd.call9 (vo hG K  (hS.st.part 0 [] (by kernel_rfl)) (qx hM) (fun LQ w hM  hst => qJ hS.ev hst.appF rfl fun hS => ?_) (fun v w hk hst => vr (xf (xf (⟨hS.ev.defs, hpan _ _ hk hst.appF.frame⟩)))))
  replace hS : Ss _ _ _ H [] F _ _ := hS
  refine sA hS rfl fun hS => qz <| wp_ret <| qA ?_
  exact zm (rs := [2]) hS rfl rfl (hret LQ _ (qU hM) (hS.st.pick [] (by kernel_rfl)))
 ·refine wp_skip ?_
  refine qc <| qk <| sM hS rfl fun hS => qK hS rfl Tryd.call18 (ug hG K s1 (hS.st.part 0 [] (by kernel_rfl)) (qx hM) (fun LB w hM  hst => qJ hS.ev hst.appF rfl fun hS => ?_) (fun v w hk hst => vr (xf (⟨hS.ev.defs, hpan _ _ hk hst.appF.frame⟩))))
  replace hS : Ss _ _ _ H [] F _ _ := hS
  refine sA hS rfl fun hS => qz <| qk <| sM hS rfl fun hS => sM hS rfl fun hS => sO hS (v8 rfl Tryd.runUnderlying9) rfl fun hS => qK hS rfl Tryd.call17 (uX hG K LB (s1.length : Int) (hS.st.part 0 [] (by kernel_rfl)) (qx hM) (fun LD LE LF w hM  hst => qJ hS.ev hst.appF rfl fun hS => ?_))
  replace hS : Ss _ _ _ H [] F _ _ := hS
  refine sM hS rfl fun hS => sO hS (ex rfl rfl) rfl fun hS => sO hS (ex rfl rfl) rfl fun hS => sO hS (ex rfl rfl) rfl fun hS => sA hS rfl fun hS => sA hS rfl fun hS => sA hS rfl fun hS => qz <| qk <| sM hS rfl fun hS => qK hS rfl Tryd.call11 (Qh hG K s1 (hS.st.part 0 [] (by kernel_rfl)) (qx hM) (fun LK w hM  hst => qJ hS.ev hst.appF rfl fun hS => ?_))
  replace hS : Ss _ _ _ H [] F _ _ := hS
  refine sA hS rfl fun hS => qz <| qk <| sM hS rfl fun hS => qK hS rfl Tryd.call19 (Zf hG K s1 (hS.st.part 0 [] (by kernel_rfl)) (qx hM) (fun LO LP LR LI w hM LL hst => qJ hS.ev hst.appF rfl fun hS => ?_))
  replace hS : Ss _ _ _ H [LI] F _ _ := hS
  refine qK hS rfl Tryd.call13 (Qu hG K LR LO LP (LL.rdF (i := 0) rfl) (LL.cap (fun _ => rfl) rfl) (hS.st.part 0 [0] (by kernel_rfl)) (qx hM) (fun LM LH w hM  hst => qJ hS.ev hst.appF rfl fun hS => ?_))
  replace hS : Ss _ _ _ H [LI] F _ _ := hS
  refine sM hS rfl fun hS => sO hS (ex rfl rfl) rfl fun hS => sO hS (ex rfl rfl) rfl fun hS => sA hS rfl fun hS => sA hS rfl fun hS => qz <| qk <| sM hS rfl fun hS => sM hS rfl fun hS => sO hS (BD rfl rfl rfl) rfl fun hS => sM hS rfl fun hS => yw 4 true 35 (b := (LD == s1)) (r := (LE == (LB.length : Int))) hS rfl rfl rfl rfl rfl rfl rfl (fun hb a w hS K hK => ?_) rfl fun a w hS => ?_
  ·refine zK hS rfl rfl rfl hb (mv rfl) rfl fun a w hS => ?_
   refine zK hS rfl rfl rfl hb (mv rfl) rfl fun a w hS => zK hS rfl rfl rfl hb (v8 rfl Tryd.runUnderlying9) rfl fun a w hS => zK hS rfl rfl rfl hb (yZ rfl rfl rfl) rfl fun a w hS => ?_
   exact zd (hK _ _ (hS.up 4 rfl rfl))
  refine sM hS rfl fun hS => yw 2 true 41 (b := ((LD == s1) && (LE == (LB.length : Int)))) (r := (LF == (0 : Int))) hS rfl rfl rfl rfl rfl rfl rfl (fun hb a w hS K hK => ?_) rfl fun a w hS => ?_
  ·refine zK hS rfl rfl rfl hb (mv rfl) rfl fun a w hS => ?_
   refine zK hS rfl rfl rfl hb (yZ rfl rfl rfl) rfl fun a w hS => ?_
   exact zd (hK _ _ (hS.up 2 rfl rfl))
  refine sM hS rfl fun hS => yw 2 true 45 (b := (((LD == s1) && (LE == (LB.length : Int))) && (LF == (0 : Int)))) (r := (LH == (0 : Int))) hS rfl rfl rfl rfl rfl rfl rfl (fun hb a w hS K hK => ?_) rfl fun a w hS => ?_
  ·refine zK hS rfl rfl rfl hb (mv rfl) rfl fun a w hS => ?_
   refine zK hS rfl rfl rfl hb (yZ rfl rfl rfl) rfl fun a w hS => ?_
   exact zd (hK _ _ (hS.up 2 rfl rfl))
  refine sM hS rfl fun hS => yw 5 true 49 (b := ((((LD == s1) && (LE == (LB.length : Int))) && (LF == (0 : Int))) && (LH == (0 : Int)))) (r := (decide ((LB.length : Int) ≤ (LK.length : Int)))) hS rfl rfl rfl rfl rfl rfl rfl (fun hb a w hS K hK => ?_) rfl fun a w hS => ?_
  ·refine zK hS rfl rfl rfl hb (mv rfl) rfl fun a w hS => ?_
   refine zK hS rfl rfl rfl hb (v8 rfl Tryd.runUnderlying9) rfl fun a w hS => zK hS rfl rfl rfl hb (mv rfl) rfl fun a w hS => zK hS rfl rfl rfl hb (v8 rfl Tryd.runUnderlying9) rfl fun a w hS => zK hS rfl rfl rfl hb (yZ rfl rfl rfl) rfl fun a w hS => ?_
   exact zd (hK _ _ (hS.up 5 rfl rfl))
  refine sM hS rfl fun hS => yw 5 true 56 (b := (((((LD == s1) && (LE == (LB.length : Int))) && (LF == (0 : Int))) && (LH == (0 : Int))) && (decide ((LB.length : Int) ≤ (LK.length : Int))))) (r := (decide ((LB.length : Int) ≤ (LM.length : Int)))) hS rfl rfl rfl rfl rfl rfl rfl (fun hb a w hS K hK => ?_) rfl fun a w hS => ?_
  ·refine zK hS rfl rfl rfl hb (mv rfl) rfl fun a w hS => ?_
   refine zK hS rfl rfl rfl hb (v8 rfl Tryd.runUnderlying9) rfl fun a w hS => zK hS rfl rfl rfl hb (mv rfl) rfl fun a w hS => zK hS rfl rfl rfl hb (v8 rfl Tryd.runUnderlying9) rfl fun a w hS => zK hS rfl rfl rfl hb (yZ rfl rfl rfl) rfl fun a w hS => ?_
   exact zd (hK _ _ (hS.up 5 rfl rfl))
  refine sM hS rfl fun hS => v4 (fun a w => ∃ (LG : Bool), Ss 66 [] [(65, .bool LG)] H [] F a w ∧ (xa.j1 K LG).wp kr kp) 2 (fun LT LJ => ?_) ?_
  ·refine UM (b := ((((((LD == s1) && (LE == (LB.length : Int))) && (LF == (0 : Int))) && (LH == (0 : Int))) && (decide ((LB.length : Int) ≤ (LK.length : Int)))) && (decide ((LB.length : Int) ≤ (LM.length : Int))))) hM (fun LC hM => ?_) (fun LC hM => ?_)
   ·replace hS := hS.re 62 (v := .bool true) rfl (congrArg Value.bool LC)
    replace hS := hS.re 63 (v := .bool true) rfl (congrArg Value.bool LC)
    refine Xk hS rfl rfl rfl rfl <| qK hS rfl Tryd.call9 (vo hG K  (hS.st.part 0 [0] (by kernel_rfl)) (qx hM) (fun LS w hM  hst => qJ hS.ev hst.appF rfl fun hS => ?_) (fun v w hk hst => vr (xf (xf (⟨hS.ev.defs, hpan _ _ hk hst.appF.frame⟩)))))
    replace hS : Ss _ _ _ H [LI] F _ _ := hS
    refine sO hS (pk rfl rfl rfl) rfl fun hS => zd <| qc ?_
    exact LJ _ _ ⟨LS, hS.to [] (by kernel_rfl) ⟨rfl, trivial⟩, hM⟩
   ·replace hS := hS.re 62 (v := .bool false) rfl (congrArg Value.bool LC)
    replace hS := hS.re 63 (v := .bool false) rfl (congrArg Value.bool LC)
    refine X4 1 hS rfl fun a w hS => sO hS (pk rfl rfl rfl) rfl fun hS => zd <| qc ?_
    exact LJ _ _ ⟨false, hS.to [] (by kernel_rfl) ⟨rfl, trivial⟩, hM⟩
  ·intro a w hI
   obtain ⟨LG, hS, hM⟩ := hI
   rw [xa.j1] at hM
   refine sA hS rfl fun hS => qz <| wp_ret ?_
   exact zm (rs := [2]) hS rfl rfl (hret LG _ (qU hM) (hS.st.pick [] (by kernel_rfl)))
end Go.TrydS

