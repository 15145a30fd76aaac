/- Printed by a program of mine: each Go function answers what its model answers; conditions: what each theorem asks of memory. -/
import Derived.Test.YtkphnjbmheoifaaP1xhjepc
set_option linter.unusedVariables false
set_option linter.unusedSimpArgs false
set_option maxRecDepth 100000
namespace Go.TryS
open Go Go.Sl Go.Mo Go.Proofs
attribute [local irreducible] qN.wp
theorem yo {H : zB} {F : List qr} {w : World} {R : Ending → World → Prop} {kr : Int → Prop} {kp : Value → Prop} (hG : Gl H) (K : Nat) (Ya : List Int) (Yf : Int) (Ym : Option Addr) (Yq : Nat) (YA : xx H [] F (ci .i64) Ym Ya) (JR : Ya.length ≤ Yq)
    (hS : St w H [] F) (hm : (qe.m K Ya Yf).wp kr kp)
    (hret : ∀ (Jh : Int) (w : World), kr Jh → St w H [] F → R (.returned (.int .i64 Jh)) w) :
    Calls Try.prog 22 ⟨[.slice Ym Ya.length Yq, .int .i64 Yf]⟩ w R := by
 refine enter Try.func22 rfl Try.ntmps22 rfl hS fun a w hS => ?_
 have hM := hm; clear hm
 rw [qe.m] at hM
 refine qo <| sA hS rfl fun hS => qz <| qo <| sA hS rfl fun hS => qz <| qo <| sM hS rfl fun hS => sO hS (v7 rfl Try.runUnderlying3 Try.runUnderlying46) rfl fun hS => ?_
 obtain ⟨JA, hM⟩ := qx hM
 refine sO hS (shl rfl rfl JA) rfl fun hS => zb (v := Value.int .i64) (x0 := (xn .i64 (1 : Int) (wr .u64 Yf))) hS (zG rfl) rfl fun Yg a w hz hS => ?_
 have hM := qA hz hM; clear hz
 refine qz <| qo <| sM hS rfl fun hS => sB hS rfl fun hS => ?_
 obtain ⟨JB, hM⟩ := qx hM
 refine Xf (g := (ci .i64)) (m := (ql (Yg + (1 : Int)))) (0 : Int) hS rfl rfl (by simp) Try.runUnderlying22 X.el3 (fun w => ⟨_, Try.zeroValue3 w, rfl⟩) (fun _ => rfl) rfl rfl JB rfl fun JI w Yv Yw JK hz Jn hS => ?_
 have hM := qA hz hM; clear hz
 refine sA hS rfl fun hS => qz <| qR (fun a w => ∃ (Yt : (List Int)) (YT : qr), Ss 129 [] [(0, .slice Ym Ya.length Yq), (1, .int .i64 Yf), (5, .int .i64 (4611686018427387904 : Int)), (6, .int .i64 Yg), (7, .slice Yv Yt.length Yw)] H [YT] F a w ∧ (zJ 3 (ci .i64) 1 Yv Yt Yw YT) ∧ (qe.j2 K Ya Yf Yg Yt).wp kr kp) (fun JT Jj => ?_) ?_
 ·refine wp_seq ?_
  refine zh <| sA hS rfl fun hS => qz <| zP <| qU (fun Jf a w => ∃ (Yp : (List Int)) (YS : qr) (YD : Int), Ss 129 [] [(0, .slice Ym Ya.length Yq), (1, .int .i64 Yf), (5, .int .i64 (4611686018427387904 : Int)), (6, .int .i64 Yg), (7, .slice Yv Yp.length Yw), (8, .int .i64 YD)] H [YS] F a w ∧ (zJ 3 (ci .i64) 1 Yv Yp Yw YS) ∧ (qe.l1 K Ya Yf Yg Jf Yp YD).wp kr kp) K ?_ ?_ ?_
  ·exact ⟨JI, JK, (1 : Int), hS.to [0] (by kernel_rfl) ⟨rfl, rfl, rfl, rfl, rfl, rfl, trivial⟩, Jn, hM⟩
  ·intro a w hI; obtain ⟨_, _, _, _, _, hM⟩ := hI; exact qS hM
  ·intro Jf a w hI JS Ji
   obtain ⟨Yp, YS, YD, hS, YJ, hM⟩ := hI
   rw [qe.l1] at hM
   refine wp_seq <| qo <| sM hS rfl fun hS => sM hS rfl fun hS => sB hS rfl fun hS => qz <| qv hS rfl hM (fun Jt hM => ?_) (fun Jt hM => ?_)
   ·refine wp_skip ?_
    refine qh <| wp_seq <| zP <| zh <| sM hS rfl fun hS => sM hS rfl fun hS => sM hS rfl fun hS => ?_
    obtain ⟨YZ, hM⟩ := qx hM
    refine sO hS (zM rfl rfl Try.runUnderlying22 Try.sizeOf3 (YJ.rd (i := 0) rfl) (fun _ => rfl) rfl YZ) rfl fun hS => Zz (i := YD) (sz := 1) 0 0 ((4611686018427387904 : Int)) hS rfl rfl YJ rfl Try.sizeOf3 (zA (4611686018427387904 : Int)) (fun _ => rfl) YZ rfl rfl fun YO w JL hz Y8 Jo hS => ?_
    have hM := qA hz hM; clear hz
    replace hS := hS.re 7 (u := .slice Yv Yp.length Yw) (v := .slice Yv YO.length Yw) rfl (by rw [Y8])
    replace hS := hS.re 27 (u := .slice Yv Yp.length Yw) (v := .slice Yv YO.length Yw) rfl (by rw [Y8])
    refine qK <| ze (qh ?_)
    refine zh <| sM hS rfl fun hS => sB hS rfl fun hS => zb (v := Value.int .i64) (x0 := (ql (YD + (1 : Int)))) hS (zG rfl) rfl fun JF a w hz hS => ?_
    have hM := qA hz hM; clear hz
    refine qK <| qh ?_
    exact Ji _ _ ⟨YO, JL, JF, hS.to [0] (by kernel_rfl) ⟨rfl, rfl, rfl, rfl, rfl, rfl, trivial⟩, Jo, hM⟩
   ·refine wp_exit ?_
    refine qu (qu (qJ (qh ?_)))
    exact Jj _ _ ⟨Yp, YS, hS.to [0] (by kernel_rfl) ⟨rfl, rfl, rfl, rfl, rfl, trivial⟩, YJ, hM⟩
 ·intro a w hI
  obtain ⟨Yt, YT, hS, Jp, hM⟩ := hI
  rw [qe.j2] at hM
  refine qR (fun a w => ∃ (YQ : Option Addr) (YR : Nat) (Yl : (List Int)) (YV : qr), Ss 129 [] [(6, .int .i64 Yg), (7, .slice YQ Yl.length YR)] H [YV] F a w ∧ (zJ 3 (ci .i64) 1 YQ Yl YR YV) ∧ (qe.j7 K Yg Yl).wp kr kp) (fun JY Jl => ?_) ?_
  ·refine wp_seq ?_
   refine zh <| sA hS rfl fun hS => qz <| zP <| qU (fun YH a w => ∃ (Yj : Option Addr) (Yo : Nat) (Yc : (List Int)) (YC : qr) (Yi : Int), Ss 129 [] [(0, .slice Ym Ya.length Yq), (1, .int .i64 Yf), (5, .int .i64 (4611686018427387904 : Int)), (6, .int .i64 Yg), (7, .slice Yj Yc.length Yo), (9, .int .i64 Yi)] H [YC] F a w ∧ (zJ 3 (ci .i64) 1 Yj Yc Yo YC) ∧ (qe.l3 K Ya Yf Yg YH Yc Yi).wp kr kp) K ?_ ?_ ?_
   ·exact ⟨Yv, Yw, Yt, YT, (0 : Int), hS.to [0] (by kernel_rfl) ⟨rfl, rfl, rfl, rfl, rfl, rfl, trivial⟩, Jp, hM⟩
   ·intro a w hI; obtain ⟨_, _, _, _, _, _, _, hM⟩ := hI; exact qS hM
   ·intro YH a w hI JX YY
    obtain ⟨Yj, Yo, Yc, YC, Yi, hS, Ys, hM⟩ := hI
    rw [qe.l3] at hM
    refine wp_seq <| qo <| sM hS rfl fun hS => sM hS rfl fun hS => sO hS (zC rfl Try.runUnderlying22) rfl fun hS => sB hS rfl fun hS => qz <| qv hS rfl hM (fun Ju hM => ?_) (fun Ju hM => ?_)
    ·refine wp_skip ?_
     refine qh <| wp_seq <| zP <| wp_seq <| qo <| sM hS rfl fun hS => sM hS rfl fun hS => ?_
     obtain ⟨Yy, hM⟩ := qx hM
     refine sO hS (zM rfl rfl Try.runUnderlying22 Try.sizeOf3 YA.wk (fun _ => rfl) rfl Yy) rfl fun hS => sO hS (zL rfl YA.wk (fun _ => rfl) Yy rfl Try.isAgg3) rfl fun hS => sB hS rfl fun hS => qz <| qv hS rfl hM (fun Jv hM => ?_) (fun Jv hM => ?_)
     ·refine wp_exit ?_
      refine qu (qJ (qh ?_))
      refine zh <| sM hS rfl fun hS => sB hS rfl fun hS => zb (v := Value.int .i64) (x0 := (ql (Yi + (1 : Int)))) hS (zG rfl) rfl fun JP a w hz hS => ?_
      have hM := qA hz hM; clear hz
      refine qK <| qh ?_
      exact YY _ _ ⟨Yj, Yo, Yc, YC, JP, hS.to [0] (by kernel_rfl) ⟨rfl, rfl, rfl, rfl, rfl, rfl, trivial⟩, Ys, hM⟩
     ·refine wp_skip ?_
      refine qh <| qo <| sM hS rfl fun hS => sB hS rfl fun hS => ?_
      obtain ⟨JC, hM⟩ := qx hM
      refine Xf (g := (ci .i64)) (m := (ql (Yg + (1 : Int)))) (0 : Int) hS rfl rfl (by simp) Try.runUnderlying22 X.el3 (fun w => ⟨_, Try.zeroValue3 w, rfl⟩) (fun _ => rfl) rfl rfl JC rfl fun JJ w Yk Yn JM hz Jq hS => ?_
      have hM := qA hz hM; clear hz
      refine sA hS rfl fun hS => qz <| wp_seq <| qo <| sA hS rfl fun hS => qz <| zP <| qU (fun YW a w => ∃ (Yr : (List Int)) (YU : qr) (Yb : Int), Ss 129 [] [(0, .slice Ym Ya.length Yq), (1, .int .i64 Yf), (5, .int .i64 (4611686018427387904 : Int)), (6, .int .i64 Yg), (7, .slice Yj Yc.length Yo), (9, .int .i64 Yi), (10, .slice Yk Yr.length Yn), (11, .int .i64 Yb)] H [YC, YU] F a w ∧ (zJ 3 (ci .i64) 1 Yk Yr Yn YU) ∧ (qe.l4 K (qe.l3 K Ya Yf Yg YH) Ya Yf Yg Yc Yi YW Yr Yb).wp kr kp) K ?_ ?_ ?_
      ·exact ⟨JJ, JM, (0 : Int), hS.to [1, 0] (by kernel_rfl) ⟨rfl, rfl, rfl, rfl, rfl, rfl, rfl, rfl, trivial⟩, Jq, hM⟩
      ·intro a w hI; obtain ⟨_, _, _, _, _, hM⟩ := hI; exact qS hM
      ·intro YW a w hI JW Jk
       obtain ⟨Yr, YU, Yb, hS, YK, hM⟩ := hI
       rw [qe.l4] at hM
       refine wp_seq <| qo <| sM hS rfl fun hS => sM hS rfl fun hS => sB hS rfl fun hS => qz <| qv hS rfl hM (fun Jw hM => ?_) (fun Jw hM => ?_)
       ·refine wp_skip ?_
        refine qh <| wp_seq <| zP <| qo <| sM hS rfl fun hS => sM hS rfl fun hS => sM hS rfl fun hS => ?_
        obtain ⟨Y0, hM⟩ := qx hM
        refine sO hS (zM rfl rfl Try.runUnderlying22 Try.sizeOf3 (YK.rd (i := 1) rfl) (fun _ => rfl) rfl Y0) rfl fun hS => Zz (i := Yb) (sz := 1) 1 0 ((4611686018427387904 : Int)) hS rfl rfl YK rfl Try.sizeOf3 (zA (4611686018427387904 : Int)) (fun _ => rfl) Y0 rfl rfl fun YP w JN hz Y9 Jr hS => ?_
        have hM := qA hz hM; clear hz
        replace hS := hS.re 10 (u := .slice Yk Yr.length Yn) (v := .slice Yk YP.length Yn) rfl (by rw [Y9])
        replace hS := hS.re 50 (u := .slice Yk Yr.length Yn) (v := .slice Yk YP.length Yn) rfl (by rw [Y9])
        refine qz <| qo <| sA hS rfl fun hS => qz <| zP <| qU (fun Ja a w => ∃ (Yh : (List Int)) (YE : qr) (Ye : Int), Ss 129 [] [(0, .slice Ym Ya.length Yq), (1, .int .i64 Yf), (5, .int .i64 (4611686018427387904 : Int)), (6, .int .i64 Yg), (7, .slice Yj Yc.length Yo), (9, .int .i64 Yi), (10, .slice Yk Yh.length Yn), (11, .int .i64 Yb), (12, .int .i64 Ye)] H [YC, YE] F a w ∧ (zJ 3 (ci .i64) 1 Yk Yh Yn YE) ∧ (qe.l5 K (qe.l4 K (qe.l3 K Ya Yf Yg YH) Ya Yf Yg Yc Yi YW) Ya Yf Yc Yi Yb Ja Yh Ye).wp kr kp) K ?_ ?_ ?_
        ·exact ⟨YP, JN, (1 : Int), hS.to [0, 1] (by kernel_rfl) ⟨rfl, rfl, rfl, rfl, rfl, rfl, rfl, rfl, rfl, trivial⟩, Jr, hM⟩
        ·intro a w hI; obtain ⟨_, _, _, _, _, hM⟩ := hI; exact qS hM
        ·intro Ja a w hI JV YX
         obtain ⟨Yh, YE, Ye, hS, Yx, hM⟩ := hI
         rw [qe.l5] at hM
         refine wp_seq <| qo <| sM hS rfl fun hS => sM hS rfl fun hS => sB hS rfl fun hS => qz <| qv hS rfl hM (fun Jx hM => ?_) (fun Jx hM => ?_)
         ·refine wp_skip ?_
          refine qh <| wp_seq <| zP <| qo <| sM hS rfl fun hS => sM hS rfl fun hS => sB hS rfl fun hS => sO hS (v7 rfl Try.runUnderlying3 Try.runUnderlying46) rfl fun hS => ?_
          obtain ⟨JD, hM⟩ := qx hM
          refine sO hS (shl rfl rfl JD) rfl fun hS => zb (v := Value.int .i64) (x0 := (xn .i64 (1 : Int) (wr .u64 (ql (Yf - Ye))))) hS (zG rfl) rfl fun Yd a w hz hS => ?_
          have hM := qA hz hM; clear hz
          refine qz <| qR (fun a w => ∃ (Jb : Bool), Ss 129 [] [(0, .slice Ym Ya.length Yq), (1, .int .i64 Yf), (5, .int .i64 (4611686018427387904 : Int)), (6, .int .i64 Yg), (7, .slice Yj Yc.length Yo), (9, .int .i64 Yi), (10, .slice Yk Yh.length Yn), (11, .int .i64 Yb), (12, .int .i64 Ye), (13, .int .i64 Yd), (96, .bool Jb)] H [YC, YE] F a w ∧ (qe.j6 K (qe.l5 K (qe.l4 K (qe.l3 K Ya Yf Yg YH) Ya Yf Yg Yc Yi YW) Ya Yf Yc Yi Yb Ja) Ya Yc Yi Yb Yh Ye Yd Jb).wp kr kp) (fun JU YI => ?_) ?_
          ·refine uW (b := (decide (Yd ≤ Yb))) hM (fun YG hM => ?_) (fun YG hM => ?_)
           ·obtain ⟨Yz, hM⟩ := qx hM
            refine uW (b := (decide ((rd Yc (ql (Yb - Yd))) < (4611686018427387904 : Int)))) hM (fun YL hM => ?_) (fun YL hM => ?_)
            ·obtain ⟨Y3, hM⟩ := qx hM
             refine zc (vals := [some (.int .i64 Yd), some (.int .i64 Yb), some (.bool true), some (.bool true), some (.slice Yj Yc.length Yo), some (.int .i64 Yb), some (.int .i64 Yd), some (.int .i64 (ql (Yb - Yd))), some (zn Yj (Int.toNat (ql (Yb - Yd)) * 1)), some (.int .i64 (rd Yc (ql (Yb - Yd)))), some (.int .i64 (4611686018427387904 : Int)), some (.bool true), some (.bool true), some (.bool true), some (.slice Yj Yc.length Yo), some (.int .i64 Yb), some (.int .i64 Yd), some (.int .i64 (ql (Yb - Yd))), some (zn Yj (Int.toNat (ql (Yb - Yd)) * 1)), some (.int .i64 (rd Yc (ql (Yb - Yd)))), some (.slice Ym Ya.length Yq), some (.int .i64 Yi), some (zn Ym (Int.toNat Yi * 1)), some (.int .i64 (rd Ya Yi)), some (.int .i64 Ye), some (.int .i64 (ql ((rd Ya Yi) * Ye))), some (.int .i64 (ql ((rd Yc (ql (Yb - Yd))) + (ql ((rd Ya Yi) * Ye))))), some (.slice Yk Yh.length Yn), some (.int .i64 Yb), some (zn Yk (Int.toNat Yb * 1)), some (.int .i64 (rd Yh Yb)), some (.bool (decide ((ql ((rd Yc (ql (Yb - Yd))) + (ql ((rd Ya Yi) * Ye)))) < (rd Yh Yb)))), some (.bool (decide ((ql ((rd Yc (ql (Yb - Yd))) + (ql ((rd Ya Yi) * Ye)))) < (rd Yh Yb))))]) hS xc rfl ?_
             intro l w ho hcl hA hst
             refine x8 hA hst ho hcl xe [0, 1, 2, 3, 4, 5, 6, 7, 8, 9, 10, 11, 12, 13, 14, 15, 16, 17, 18, 19, 20, 21, 22, 23, 24, 25, 26, 27, 28, 29, 30, 31, 32] rfl rfl rfl (by exact ⟨nM rfl, nM rfl, nQ rfl (by exact qW (xq rfl rfl rfl) (congrArg Value.bool YG)), nM rfl, nW rfl rfl rfl rfl rfl rfl rfl rfl (by exact qW (mv rfl) rfl), nW rfl rfl rfl rfl rfl rfl rfl rfl (by exact qW (mv rfl) rfl), nW rfl rfl rfl rfl rfl rfl rfl rfl (by exact qW (mv rfl) rfl), nW rfl rfl rfl rfl rfl rfl rfl rfl (by exact qW (xq rfl rfl rfl) rfl), nW rfl rfl rfl rfl rfl rfl rfl rfl (by exact qW (zM rfl rfl Try.runUnderlying22 Try.sizeOf3 (Ys.rd (i := 0) rfl) (fun _ => rfl) rfl Yz) rfl), nW rfl rfl rfl rfl rfl rfl rfl rfl (by exact qW (zL rfl (Ys.rd (i := 0) rfl) (fun _ => rfl) Yz rfl Try.isAgg3) rfl), nW rfl rfl rfl rfl rfl rfl rfl rfl (by exact qW (mv rfl) rfl), nW rfl rfl rfl rfl rfl rfl rfl rfl (by exact qW (xq rfl rfl rfl) (congrArg Value.bool YL)), nQ rfl (by exact qW (pk rfl rfl rfl) rfl), nM rfl, nW rfl rfl rfl rfl rfl rfl rfl rfl (by exact qW (mv rfl) rfl), nW rfl rfl rfl rfl rfl rfl rfl rfl (by exact qW (mv rfl) rfl), nW rfl rfl rfl rfl rfl rfl rfl rfl (by exact qW (mv rfl) rfl), nW rfl rfl rfl rfl rfl rfl rfl rfl (by exact qW (xq rfl rfl rfl) rfl), nW rfl rfl rfl rfl rfl rfl rfl rfl (by exact qW (zM rfl rfl Try.runUnderlying22 Try.sizeOf3 (Ys.rd (i := 0) rfl) (fun _ => rfl) rfl Yz) rfl), nW rfl rfl rfl rfl rfl rfl rfl rfl (by exact qW (zL rfl (Ys.rd (i := 0) rfl) (fun _ => rfl) Yz rfl Try.isAgg3) rfl), nW rfl rfl rfl rfl rfl rfl rfl rfl (by exact qW (mv rfl) rfl), nW rfl rfl rfl rfl rfl rfl rfl rfl (by exact qW (mv rfl) rfl), nW rfl rfl rfl rfl rfl rfl rfl rfl (by exact qW (zM rfl rfl Try.runUnderlying22 Try.sizeOf3 YA.wk (fun _ => rfl) rfl Yy) rfl), nW rfl rfl rfl rfl rfl rfl rfl rfl (by exact qW (zL rfl YA.wk (fun _ => rfl) Yy rfl Try.isAgg3) rfl), nW rfl rfl rfl rfl rfl rfl rfl rfl (by exact qW (mv rfl) rfl), nW rfl rfl rfl rfl rfl rfl rfl rfl (by exact qW (xq rfl rfl rfl) rfl), nW rfl rfl rfl rfl rfl rfl rfl rfl (by exact qW (xq rfl rfl rfl) rfl), nW rfl rfl rfl rfl rfl rfl rfl rfl (by exact qW (mv rfl) rfl), nW rfl rfl rfl rfl rfl rfl rfl rfl (by exact qW (mv rfl) rfl), nW rfl rfl rfl rfl rfl rfl rfl rfl (by exact qW (zM rfl rfl Try.runUnderlying22 Try.sizeOf3 (Yx.rd (i := 1) rfl) (fun _ => rfl) rfl Y3) rfl), nW rfl rfl rfl rfl rfl rfl rfl rfl (by exact qW (zL rfl (Yx.rd (i := 1) rfl) (fun _ => rfl) Y3 rfl Try.isAgg3) rfl), nW rfl rfl rfl rfl rfl rfl rfl rfl (by exact qW (xq rfl rfl rfl) rfl), nQ rfl (by exact qW (pk rfl rfl rfl) rfl), trivial⟩) fun a w hS => ?_
             replace hS := hS.env2 (e' := [(0, .slice Ym Ya.length Yq), (1, .int .i64 Yf), (5, .int .i64 (4611686018427387904 : Int)), (6, .int .i64 Yg), (7, .slice Yj Yc.length Yo), (9, .int .i64 Yi), (10, .slice Yk Yh.length Yn), (11, .int .i64 Yb), (12, .int .i64 Ye), (13, .int .i64 Yd), (96, .bool (decide ((ql ((rd Yc (ql (Yb - Yd))) + (ql ((rd Ya Yi) * Ye)))) < (rd Yh Yb))))]) ⟨rfl, rfl, rfl, rfl, rfl, rfl, rfl, rfl, rfl, rfl, rfl, trivial⟩
             refine qh ?_
             exact YI _ _ ⟨(decide ((ql ((rd Yc (ql (Yb - Yd))) + (ql ((rd Ya Yi) * Ye)))) < (rd Yh Yb))), hS.to [0, 1] (by kernel_rfl) ⟨rfl, rfl, rfl, rfl, rfl, rfl, rfl, rfl, rfl, rfl, rfl, trivial⟩, hM⟩
            ·refine zc (vals := [some (.int .i64 Yd), some (.int .i64 Yb), some (.bool true), some (.bool true), some (.slice Yj Yc.length Yo), some (.int .i64 Yb), some (.int .i64 Yd), some (.int .i64 (ql (Yb - Yd))), some (zn Yj (Int.toNat (ql (Yb - Yd)) * 1)), some (.int .i64 (rd Yc (ql (Yb - Yd)))), some (.int .i64 (4611686018427387904 : Int)), some (.bool false), some (.bool false), some (.bool false), some (undef), some (undef), some (undef), some (undef), some (undef), some (undef), some (undef), some (undef), some (undef), some (undef), some (undef), some (undef), some (undef), some (undef), some (undef), some (undef), some (undef), some (undef), some (.bool false)]) hS xc rfl ?_
             intro l w ho hcl hA hst
             refine x8 hA hst ho hcl xe [0, 1, 2, 3, 4, 5, 6, 7, 8, 9, 10, 11, 12, 13, 14, 15, 16, 17, 18, 19, 20, 21, 22, 23, 24, 25, 26, 27, 28, 29, 30, 31, 32] rfl rfl rfl (by exact ⟨nM rfl, nM rfl, nQ rfl (by exact qW (xq rfl rfl rfl) (congrArg Value.bool YG)), nM rfl, nW rfl rfl rfl rfl rfl rfl rfl rfl (by exact qW (mv rfl) rfl), nW rfl rfl rfl rfl rfl rfl rfl rfl (by exact qW (mv rfl) rfl), nW rfl rfl rfl rfl rfl rfl rfl rfl (by exact qW (mv rfl) rfl), nW rfl rfl rfl rfl rfl rfl rfl rfl (by exact qW (xq rfl rfl rfl) rfl), nW rfl rfl rfl rfl rfl rfl rfl rfl (by exact qW (zM rfl rfl Try.runUnderlying22 Try.sizeOf3 (Ys.rd (i := 0) rfl) (fun _ => rfl) rfl Yz) rfl), nW rfl rfl rfl rfl rfl rfl rfl rfl (by exact qW (zL rfl (Ys.rd (i := 0) rfl) (fun _ => rfl) Yz rfl Try.isAgg3) rfl), nW rfl rfl rfl rfl rfl rfl rfl rfl (by exact qW (mv rfl) rfl), nW rfl rfl rfl rfl rfl rfl rfl rfl (by exact qW (xq rfl rfl rfl) (congrArg Value.bool YL)), nQ rfl (by exact qW (pk rfl rfl rfl) rfl), nM rfl, nS rfl rfl rfl rfl rfl rfl rfl rfl rfl, nS rfl rfl rfl rfl rfl rfl rfl rfl rfl, nS rfl rfl rfl rfl rfl rfl rfl rfl rfl, nS rfl rfl rfl rfl rfl rfl rfl rfl rfl, nS rfl rfl rfl rfl rfl rfl rfl rfl rfl, nS rfl rfl rfl rfl rfl rfl rfl rfl rfl, nS rfl rfl rfl rfl rfl rfl rfl rfl rfl, nS rfl rfl rfl rfl rfl rfl rfl rfl rfl, nS rfl rfl rfl rfl rfl rfl rfl rfl rfl, nS rfl rfl rfl rfl rfl rfl rfl rfl rfl, nS rfl rfl rfl rfl rfl rfl rfl rfl rfl, nS rfl rfl rfl rfl rfl rfl rfl rfl rfl, nS rfl rfl rfl rfl rfl rfl rfl rfl rfl, nS rfl rfl rfl rfl rfl rfl rfl rfl rfl, nS rfl rfl rfl rfl rfl rfl rfl rfl rfl, nS rfl rfl rfl rfl rfl rfl rfl rfl rfl, nS rfl rfl rfl rfl rfl rfl rfl rfl rfl, nS rfl rfl rfl rfl rfl rfl rfl rfl rfl, nQ rfl (by exact qW (pk rfl rfl rfl) rfl), trivial⟩) fun a w hS => ?_
             replace hS := hS.env2 (e' := [(0, .slice Ym Ya.length Yq), (1, .int .i64 Yf), (5, .int .i64 (4611686018427387904 : Int)), (6, .int .i64 Yg), (7, .slice Yj Yc.length Yo), (9, .int .i64 Yi), (10, .slice Yk Yh.length Yn), (11, .int .i64 Yb), (12, .int .i64 Ye), (13, .int .i64 Yd), (96, .bool false)]) ⟨rfl, rfl, rfl, rfl, rfl, rfl, rfl, rfl, rfl, rfl, rfl, trivial⟩
             refine qh ?_
             exact YI _ _ ⟨false, hS.to [0, 1] (by kernel_rfl) ⟨rfl, rfl, rfl, rfl, rfl, rfl, rfl, rfl, rfl, rfl, rfl, trivial⟩, hM⟩
           ·refine zc (vals := [some (.int .i64 Yd), some (.int .i64 Yb), some (.bool false), some (.bool false), some (undef), some (undef), some (undef), some (undef), some (undef), some (undef), some (undef), some (undef), some (.bool false), some (.bool false), some (undef), some (undef), some (undef), some (undef), some (undef), some (undef), some (undef), some (undef), some (undef), some (undef), some (undef), some (undef), some (undef), some (undef), some (undef), some (undef), some (undef), some (undef), some (.bool false)]) hS xc rfl ?_
            intro l w ho hcl hA hst
            refine x8 hA hst ho hcl xe [0, 1, 2, 3, 4, 5, 6, 7, 8, 9, 10, 11, 12, 13, 14, 15, 16, 17, 18, 19, 20, 21, 22, 23, 24, 25, 26, 27, 28, 29, 30, 31, 32] rfl rfl rfl (by exact ⟨nM rfl, nM rfl, nQ rfl (by exact qW (xq rfl rfl rfl) (congrArg Value.bool YG)), nM rfl, nS rfl rfl rfl rfl rfl rfl rfl rfl rfl, nS rfl rfl rfl rfl rfl rfl rfl rfl rfl, nS rfl rfl rfl rfl rfl rfl rfl rfl rfl, nS rfl rfl rfl rfl rfl rfl rfl rfl rfl, nS rfl rfl rfl rfl rfl rfl rfl rfl rfl, nS rfl rfl rfl rfl rfl rfl rfl rfl rfl, nS rfl rfl rfl rfl rfl rfl rfl rfl rfl, nS rfl rfl rfl rfl rfl rfl rfl rfl rfl, nQ rfl (by exact qW (pk rfl rfl rfl) rfl), nM rfl, nS rfl rfl rfl rfl rfl rfl rfl rfl rfl, nS rfl rfl rfl rfl rfl rfl rfl rfl rfl, nS rfl rfl rfl rfl rfl rfl rfl rfl rfl, nS rfl rfl rfl rfl rfl rfl rfl rfl rfl, nS rfl rfl rfl rfl rfl rfl rfl rfl rfl, nS rfl rfl rfl rfl rfl rfl rfl rfl rfl, nS rfl rfl rfl rfl rfl rfl rfl rfl rfl, nS rfl rfl rfl rfl rfl rfl rfl rfl rfl, nS rfl rfl rfl rfl rfl rfl rfl rfl rfl, nS rfl rfl rfl rfl rfl rfl rfl rfl rfl, nS rfl rfl rfl rfl rfl rfl rfl rfl rfl, nS rfl rfl rfl rfl rfl rfl rfl rfl rfl, nS rfl rfl rfl rfl rfl rfl rfl rfl rfl, nS rfl rfl rfl rfl rfl rfl rfl rfl rfl, nS rfl rfl rfl rfl rfl rfl rfl rfl rfl, nS rfl rfl rfl rfl rfl rfl rfl rfl rfl, nS rfl rfl rfl rfl rfl rfl rfl rfl rfl, nS rfl rfl rfl rfl rfl rfl rfl rfl rfl, nQ rfl (by exact qW (pk rfl rfl rfl) rfl), trivial⟩) fun a w hS => ?_
            replace hS := hS.env2 (e' := [(0, .slice Ym Ya.length Yq), (1, .int .i64 Yf), (5, .int .i64 (4611686018427387904 : Int)), (6, .int .i64 Yg), (7, .slice Yj Yc.length Yo), (9, .int .i64 Yi), (10, .slice Yk Yh.length Yn), (11, .int .i64 Yb), (12, .int .i64 Ye), (13, .int .i64 Yd), (96, .bool false)]) ⟨rfl, rfl, rfl, rfl, rfl, rfl, rfl, rfl, rfl, rfl, rfl, trivial⟩
            refine qh ?_
            exact YI _ _ ⟨false, hS.to [0, 1] (by kernel_rfl) ⟨rfl, rfl, rfl, rfl, rfl, rfl, rfl, rfl, rfl, rfl, rfl, trivial⟩, hM⟩
          ·intro a w hI
           obtain ⟨Jb, hS, hM⟩ := hI
           rw [qe.j6] at hM
           refine qv hS rfl hM (fun Jy hM => ?_) (fun Jy hM => ?_)
           ·obtain ⟨Y4, hM⟩ := qx hM
            obtain ⟨Y5, hM⟩ := qx hM
            refine zc (vals := [some (.slice Yk Yh.length Yn), some (.int .i64 Yb), some (.slice Yj Yc.length Yo), some (.int .i64 Yb), some (.int .i64 Yd), some (.int .i64 (ql (Yb - Yd))), some (zn Yj (Int.toNat (ql (Yb - Yd)) * 1)), some (.int .i64 (rd Yc (ql (Yb - Yd)))), some (.slice Ym Ya.length Yq), some (.int .i64 Yi), some (zn Ym (Int.toNat Yi * 1)), some (.int .i64 (rd Ya Yi)), some (.int .i64 Ye), some (.int .i64 (ql ((rd Ya Yi) * Ye))), some (.int .i64 (ql ((rd Yc (ql (Yb - Yd))) + (ql ((rd Ya Yi) * Ye))))), some (zn Yk (Int.toNat Yb * 1)), none]) hS xc rfl ?_
            intro l w ho hcl hA hst
            refine vP hA hst ho hcl xS xe 16 [0, 1, 2, 3, 4, 5, 6, 7, 8, 9, 10, 11, 12, 13, 14, 15] rfl rfl rfl rfl rfl (by exact ⟨nM rfl, nM rfl, nM rfl, nM rfl, nM rfl, nB rfl, nQ rfl (by exact qW (zM rfl rfl Try.runUnderlying22 Try.sizeOf3 (Ys.rd (i := 0) rfl) (fun _ => rfl) rfl Y4) rfl), nQ rfl (by exact qW (zL rfl (Ys.rd (i := 0) rfl) (fun _ => rfl) Y4 rfl Try.isAgg3) rfl), nM rfl, nM rfl, nQ rfl (by exact qW (zM rfl rfl Try.runUnderlying22 Try.sizeOf3 YA.wk (fun _ => rfl) rfl Yy) rfl), nQ rfl (by exact qW (zL rfl YA.wk (fun _ => rfl) Yy rfl Try.isAgg3) rfl), nM rfl, nB rfl, nB rfl, nQ rfl (by exact qW (zM rfl rfl Try.runUnderlying22 Try.sizeOf3 (Yx.rd (i := 1) rfl) (fun _ => rfl) rfl Y5) rfl), trivial⟩) fun D l a w ho hcl hav hpre hm hE hk hA hst => ?_
            have hS := (Ss.mk hE hst).env2 (e' := [(111, .int .i64 (ql ((rd Yc (ql (Yb - Yd))) + (ql ((rd Ya Yi) * Ye))))), (112, zn Yk (Int.toNat Yb * 1))]) ⟨rfl, rfl, trivial⟩
            refine zr rfl <| Zz (i := Yb) (sz := 1) 1 0 ((ql ((rd Yc (ql (Yb - Yd))) + (ql ((rd Ya Yi) * Ye))))) hS rfl rfl Yx rfl Try.sizeOf3 (zA (ql ((rd Yc (ql (Yb - Yd))) + (ql ((rd Ya Yi) * Ye))))) (fun _ => rfl) Y5 rfl rfl fun Jc w JO hz JE Js hS => ?_
            have hM := qA hz hM; clear hz
            refine qz ?_
            replace hst := hS.st
            obtain ⟨hcl, hmust, hav2, hA⟩ := QV (vals' := [some (.slice Yk Yh.length Yn), some (.int .i64 Yb), some (.slice Yj Yc.length Yo), some (.int .i64 Yb), some (.int .i64 Yd), some (.int .i64 (ql (Yb - Yd))), some (zn Yj (Int.toNat (ql (Yb - Yd)) * 1)), some (.int .i64 (rd Yc (ql (Yb - Yd)))), some (.slice Ym Ya.length Yq), some (.int .i64 Yi), some (zn Ym (Int.toNat Yi * 1)), some (.int .i64 (rd Ya Yi)), some (.int .i64 Ye), some (.int .i64 (ql ((rd Ya Yi) * Ye))), some (.int .i64 (ql ((rd Yc (ql (Yb - Yd))) + (ql ((rd Ya Yi) * Ye))))), some (zn Yk (Int.toNat Yb * 1)), some undef]) 16 [(0, 16), (1, 16), (2, 16), (3, 16), (4, 16), (5, 16), (6, 16), (7, 16), (8, 16), (9, 16), (10, 16), (11, 16), (12, 16), (13, 16), (14, 16), (15, 16)] hA hcl hav hm hpre rfl rfl rfl rfl rfl
            clear hm hav
            refine x8 hA hst ho hcl hmust [] rfl rfl rfl trivial fun a w hS => ?_
            replace hS := hS.env2 (e' := [(0, .slice Ym Ya.length Yq), (1, .int .i64 Yf), (5, .int .i64 (4611686018427387904 : Int)), (6, .int .i64 Yg), (7, .slice Yj Yc.length Yo), (9, .int .i64 Yi), (10, .slice Yk Jc.length Yn), (11, .int .i64 Yb), (12, .int .i64 Ye)]) ⟨rfl, rfl, rfl, rfl, rfl, rfl, (Qz (u := .slice Yk Yh.length Yn) rfl (by rw [JE])), rfl, rfl, trivial⟩
            refine ze (qh ?_)
            refine zh <| sM hS rfl fun hS => sB hS rfl fun hS => zb (v := Value.int .i64) (x0 := (ql (Ye + (1 : Int)))) hS (zG rfl) rfl fun YM a w hz hS => ?_
            have hM := qA hz hM; clear hz
            refine qK <| qh ?_
            exact YX _ _ ⟨Jc, JO, YM, hS.to [0, 1] (by kernel_rfl) ⟨rfl, rfl, rfl, rfl, rfl, rfl, rfl, rfl, rfl, trivial⟩, Js, hM⟩
           ·refine wp_skip ?_
            refine ze (qh ?_)
            refine zh <| sM hS rfl fun hS => sB hS rfl fun hS => zb (v := Value.int .i64) (x0 := (ql (Ye + (1 : Int)))) hS (zG rfl) rfl fun YN a w hz hS => ?_
            have hM := qA hz hM; clear hz
            refine qK <| qh ?_
            exact YX _ _ ⟨Yh, YE, YN, hS.to [0, 1] (by kernel_rfl) ⟨rfl, rfl, rfl, rfl, rfl, rfl, rfl, rfl, rfl, trivial⟩, Yx, hM⟩
         ·refine wp_exit ?_
          refine qu (qu (qJ (ze (qh ?_))))
          refine zh <| sM hS rfl fun hS => sB hS rfl fun hS => zb (v := Value.int .i64) (x0 := (ql (Yb + (1 : Int)))) hS (zG rfl) rfl fun JG a w hz hS => ?_
          have hM := qA hz hM; clear hz
          refine qK <| qh ?_
          exact Jk _ _ ⟨Yh, YE, JG, hS.to [0, 1] (by kernel_rfl) ⟨rfl, rfl, rfl, rfl, rfl, rfl, rfl, rfl, trivial⟩, Yx, hM⟩
       ·refine wp_exit ?_
        refine qu (qu (qJ (qh ?_)))
        refine zh <| sM hS rfl fun hS => sA hS rfl fun hS => qK <| ze (qh ?_)
        refine zh <| sM hS rfl fun hS => sB hS rfl fun hS => zb (v := Value.int .i64) (x0 := (ql (Yi + (1 : Int)))) hS (zG rfl) rfl fun JQ a w hz hS => ?_
        have hM := qA hz hM; clear hz
        refine qK <| qh ?_
        exact YY _ _ ⟨Yk, Yn, Yr, YU, JQ, hS.to [1] (by kernel_rfl) ⟨rfl, rfl, rfl, rfl, rfl, rfl, trivial⟩, YK, hM⟩
    ·refine wp_exit ?_
     refine qu (qu (qJ (qh ?_)))
     exact Jl _ _ ⟨Yj, Yo, Yc, YC, hS.to [0] (by kernel_rfl) ⟨rfl, rfl, trivial⟩, Ys, hM⟩
  ·intro a w hI
   obtain ⟨YQ, YR, Yl, YV, hS, YF, hM⟩ := hI
   rw [qe.j7] at hM
   refine qo <| sM hS rfl fun hS => ?_
   obtain ⟨Y6, hM⟩ := qx hM
   refine sO hS (zM rfl rfl Try.runUnderlying22 Try.sizeOf3 (YF.rd (i := 0) rfl) (fun _ => rfl) rfl Y6) rfl fun hS => sO hS (zL rfl (YF.rd (i := 0) rfl) (fun _ => rfl) Y6 rfl Try.isAgg3) rfl fun hS => zb (v := Value.int .i64) (x0 := (rd Yl (0 : Int))) hS (zG rfl) rfl fun Jd a w hz hS => ?_
   have hM := qA hz hM; clear hz
   refine qz <| wp_seq <| qo <| sA hS rfl fun hS => qz <| zP <| qU (fun Jg a w => ∃ (Yu : Int) (YB : Int), Ss 129 [] [(6, .int .i64 Yg), (7, .slice YQ Yl.length YR), (14, .int .i64 Yu), (15, .int .i64 YB)] H [YV] F a w ∧ (qe.l8 K Yg Yl Jg Yu YB).wp kr kp) K ?_ ?_ ?_
   ·exact ⟨Jd, (1 : Int), hS.to [0] (by kernel_rfl) ⟨rfl, rfl, rfl, rfl, trivial⟩, hM⟩
   ·intro a w hI; obtain ⟨_, _, _, hM⟩ := hI; exact qS hM
   ·intro Jg a w hI JZ Jm
    obtain ⟨Yu, YB, hS, hM⟩ := hI
    rw [qe.l8] at hM
    refine wp_seq <| qo <| sM hS rfl fun hS => sM hS rfl fun hS => sB hS rfl fun hS => qz <| qv hS rfl hM (fun Jz hM => ?_) (fun Jz hM => ?_)
    ·refine wp_skip ?_
     refine qh <| wp_seq <| zP <| zh <| sM hS rfl fun hS => sM hS rfl fun hS => sM hS rfl fun hS => ?_
     obtain ⟨Y7, hM⟩ := qx hM
     refine sO hS (zM rfl rfl Try.runUnderlying22 Try.sizeOf3 (YF.rd (i := 0) rfl) (fun _ => rfl) rfl Y7) rfl fun hS => sO hS (zL rfl (YF.rd (i := 0) rfl) (fun _ => rfl) Y7 rfl Try.isAgg3) rfl fun hS => sO hS (Xt rfl rfl) rfl fun hS => zb (v := Value.int .i64) (x0 := (if (rd Yl YB) < Yu then (rd Yl YB) else Yu)) hS (zG rfl) rfl fun Je a w hz hS => ?_
     have hM := qA hz hM; clear hz
     refine qK <| ze (qh ?_)
     refine zh <| sM hS rfl fun hS => sB hS rfl fun hS => zb (v := Value.int .i64) (x0 := (ql (YB + (1 : Int)))) hS (zG rfl) rfl fun JH a w hz hS => ?_
     have hM := qA hz hM; clear hz
     refine qK <| qh ?_
     exact Jm _ _ ⟨Je, JH, hS.to [0] (by kernel_rfl) ⟨rfl, rfl, rfl, rfl, trivial⟩, hM⟩
    ·refine wp_exit ?_
     refine qu (qu (qJ (qh ?_)))
     refine qo <| sM hS rfl fun hS => sA hS rfl fun hS => qz <| wp_ret ?_
     exact qZ (rs := [4]) hS rfl rfl (hret Yu _ (qQ hM) (hS.st.pick [] (by kernel_rfl)))
theorem xR {H : zB} {F : List qr} {w : World} {R : Ending → World → Prop} {kr : Bool → Prop} {kp : Value → Prop} (hG : Gl H) (K : Nat) (often1 : List Int) (most6 : Int) (A2 : Option Addr) (c3 : Nat) (hr4 : xx H [] F (ci .i64) A2 often1) (hc5 : often1.length ≤ c3)
    (hS : St w H [] F) (hm : (qg.m K often1 most6).wp kr kp)
    (hret : ∀ (YK : Bool) (w : World), kr YK → St w H [] F → R (.returned (.bool YK)) w)
    (hpan : ∀ v w, kp v → St w H [] F → R (.panicked [⟨v, false, false⟩]) w) :
    Calls Try.prog 5 ⟨[.slice A2 often1.length c3, .int .i64 most6]⟩ w R := by
 refine enter Try.func5 rfl Try.ntmps5 rfl hS fun a w hS => ?_
 have hM := hm; clear hm
 rw [qg.m] at hM
 refine qo <| sA hS rfl fun hS => qz <| wp_seq <| qo <| sM hS rfl fun hS => sO hS (zC rfl Try.runUnderlying22) rfl fun hS => sB hS rfl fun hS => sM hS rfl fun hS => xj 2 false 13 (b := (decide ((often1.length : Int) > (30 : Int)))) (r := (decide (most6 > (8 : Int)))) hS rfl rfl rfl rfl rfl rfl rfl (fun hb a w hS K hK => ?_) rfl fun a w hS => ?_
 ·refine qX hS rfl rfl rfl hb (mv rfl) rfl fun a w hS => ?_
  refine qX hS rfl rfl rfl hb (xq rfl rfl rfl) rfl fun a w hS => ?_
  exact qK (hK _ _ (hS.up 2 rfl rfl))
 refine qz <| qv hS rfl hM (fun hb7 hM => ?_) (fun hb7 hM => ?_)
 ·refine wp_seq ?_
  refine zh <| qT hS rfl Try.call14 (zZ hG K  (hS.st.part 0 [] (by kernel_rfl)) (qE hM) (fun YV w hM  hst => qP hS.ev hst.appF rfl fun hS => ?_) (fun v w hk hst => yr (q6 (q6 (⟨hS.ev.defs, hpan _ _ hk hst.appF.frame⟩)))))
  replace hS : Ss _ _ _ H [] F _ _ := hS
  refine sA hS rfl fun hS => qz <| wp_ret <| qy ?_
  exact qZ (rs := [4]) hS rfl rfl (hret YV _ (qQ hM) (hS.st.pick [] (by kernel_rfl)))
 ·refine wp_skip ?_
  refine qh <| qo <| sA hS rfl fun hS => ?_
  obtain ⟨Jb, YN, hS⟩ := hS.nilV 3 (ci .i64) 1
  refine qz <| qo <| sM hS rfl fun hS => sM hS rfl fun hS => ?_
  obtain ⟨YT, hM⟩ := qx hM
  refine ZE (ys := often1) 0 hS rfl rfl YN rfl hr4.wk Try.runUnderlying22 Try.runUnderlying22 X.el3 (fun _ => rfl) rfl zA YT rfl fun YH w YI YJ Yt hz Yn hS => ?_
  have hM := qA hz hM; clear hz
  refine sA hS rfl fun hS => qz <| qo <| sM hS rfl fun hS => sM hS rfl fun hS => qT hS rfl Try.call20 (yj hG K YH most6 YI YJ (Yn.rdF (i := 0) rfl) (Yn.cap (fun _ => rfl) rfl) (hS.st.part 0 [0] (by kernel_rfl)) (qE hM) (fun Yd Ye Yb Yg Yp w hM Yf hst => qP hS.ev hst.appF rfl fun hS => ?_) (fun v w hk hst => yr (q6 (⟨hS.ev.defs, hpan _ _ hk hst.appF.frame⟩))))
  replace hS : Ss _ _ _ H [Yg, Yt] F _ _ := hS
  refine sM hS rfl fun hS => sO hS (ex rfl rfl) rfl fun hS => sO hS (ex rfl rfl) rfl fun hS => sA hS rfl fun hS => sA hS rfl fun hS => qz <| wp_seq <| qo <| sM hS rfl fun hS => sM hS rfl fun hS => qT hS rfl Try.call11 (z6 hG K YH often1 YI YJ A2 c3 (Yn.rdF (i := 1) rfl) (Yn.cap (fun _ => rfl) rfl) (hr4.app _) hc5 (hS.st.part 0 [0, 1] (by kernel_rfl)) (qE hM) (fun YW w hM  hst => qP hS.ev hst.appF rfl fun hS => ?_))
  replace hS : Ss _ _ _ H [Yg, Yt] F _ _ := hS
  refine sO hS (un rfl rfl) rfl fun hS => sM hS rfl fun hS => xi (fun a w => ∃ (YE : Bool), Ss 105 [] [(0, .slice A2 often1.length c3), (1, .int .i64 most6), (6, .slice Yd Yb.length Ye), (7, .int .i64 Yp), (38, .bool YE)] H [Yg] F a w ∧ (qg.j1 K often1 most6 Yb Yp YE).wp kr kp) 7 (fun Y4 Yu => ?_) ?_
  ·refine uW (b := (!YW)) hM (fun Yj hM => ?_) (fun Yj hM => ?_)
   ·replace hS := hS.re 30 (v := .bool true) rfl (congrArg Value.bool Yj)
    replace hS := hS.re 31 (v := .bool true) rfl (congrArg Value.bool Yj)
    refine yW 6 hS rfl fun a w hS => sO hS (pk rfl rfl rfl) rfl fun hS => qK <| qh ?_
    exact Yu _ _ ⟨true, hS.to [0] (by kernel_rfl) ⟨rfl, rfl, rfl, rfl, rfl, trivial⟩, hM⟩
   ·replace hS := hS.re 30 (v := .bool false) rfl (congrArg Value.bool Yj)
    replace hS := hS.re 31 (v := .bool false) rfl (congrArg Value.bool Yj)
    refine qX hS rfl rfl rfl rfl (mv rfl) rfl fun a w hS => qX hS rfl rfl rfl rfl (xq rfl rfl rfl) rfl fun a w hS => qX hS rfl rfl rfl rfl (mv rfl) rfl fun a w hS => qX hS rfl rfl rfl rfl (mv rfl) rfl fun a w hS => xD hS rfl rfl rfl rfl <| qT hS rfl Try.call21 (yp hG K often1 most6 A2 c3 (hr4.app _) hc5 (hS.st.part 0 [0, 1] (by kernel_rfl)) (qE hM) (fun YX w hM  hst => qP hS.ev hst.appF rfl fun hS => ?_))
    replace hS : Ss _ _ _ H [Yg, Yt] F _ _ := hS
    refine qX hS rfl rfl rfl rfl (ZK rfl rfl Try.runUnderlying4 rfl) rfl fun a w hS => sO hS (pk rfl rfl rfl) rfl fun hS => qK <| qh ?_
    exact Yu _ _ ⟨(!((Yp == (0 : Int)) == YX)), hS.to [0] (by kernel_rfl) ⟨rfl, rfl, rfl, rfl, rfl, trivial⟩, hM⟩
  ·intro a w hI
   obtain ⟨YE, hS, hM⟩ := hI
   rw [qg.j1] at hM
   refine qz <| qv hS rfl hM (fun YO hM => ?_) (fun YO hM => ?_)
   ·refine wp_seq ?_
    refine zh <| sA hS rfl fun hS => qz <| wp_ret <| qy ?_
    exact qZ (rs := [4]) hS rfl rfl (hret false _ (qQ hM) (hS.st.pick [] (by kernel_rfl)))
   ·refine wp_skip ?_
    refine qh <| wp_seq <| qo <| sM hS rfl fun hS => sB hS rfl fun hS => qz <| qv hS rfl hM (fun YP hM => ?_) (fun YP hM => ?_)
    ·refine wp_seq ?_
     refine zh <| sM hS rfl fun hS => sB hS rfl fun hS => sM hS rfl fun hS => xj 3 true 43 (b := (Yp == (1 : Int))) (r := ((Yb.length : Int) == (0 : Int))) hS rfl rfl rfl rfl rfl rfl rfl (fun hb a w hS K hK => ?_) rfl fun a w hS => ?_
     ·refine qX hS rfl rfl rfl hb (mv rfl) rfl fun a w hS => ?_
      refine qX hS rfl rfl rfl hb (zC rfl Try.runUnderlying22) rfl fun a w hS => qX hS rfl rfl rfl hb (xq rfl rfl rfl) rfl fun a w hS => ?_
      exact qK (hK _ _ (hS.up 3 rfl rfl))
     refine sM hS rfl fun hS => xi (fun a w => ∃ (Yr : Bool), Ss 105 [] [(50, .bool Yr)] H [] F a w ∧ (qg.j2 K Yr).wp kr kp) 2 (fun Y5 Yv => ?_) ?_
     ·refine uW (b := ((Yp == (1 : Int)) && ((Yb.length : Int) == (0 : Int)))) hM (fun Yk hM => ?_) (fun Yk hM => ?_)
      ·replace hS := hS.re 47 (v := .bool true) rfl (congrArg Value.bool Yk)
       replace hS := hS.re 48 (v := .bool true) rfl (congrArg Value.bool Yk)
       refine xD hS rfl rfl rfl rfl <| qT hS rfl Try.call14 (zZ hG K  (hS.st.part 0 [0] (by kernel_rfl)) (qE hM) (fun YY w hM  hst => qP hS.ev hst.appF rfl fun hS => ?_) (fun v w hk hst => yr (q6 (q6 (q6 (⟨hS.ev.defs, hpan _ _ hk hst.appF.frame⟩))))))
       replace hS : Ss _ _ _ H [Yg] F _ _ := hS
       refine sO hS (pk rfl rfl rfl) rfl fun hS => qK <| qh ?_
       exact Yv _ _ ⟨YY, hS.to [] (by kernel_rfl) ⟨rfl, trivial⟩, hM⟩
      ·replace hS := hS.re 47 (v := .bool false) rfl (congrArg Value.bool Yk)
       replace hS := hS.re 48 (v := .bool false) rfl (congrArg Value.bool Yk)
       refine yW 1 hS rfl fun a w hS => sO hS (pk rfl rfl rfl) rfl fun hS => qK <| qh ?_
       exact Yv _ _ ⟨false, hS.to [] (by kernel_rfl) ⟨rfl, trivial⟩, hM⟩
     ·intro a w hI
      obtain ⟨Yr, hS, hM⟩ := hI
      rw [qg.j2] at hM
      refine sA hS rfl fun hS => qz <| wp_ret <| qy ?_
      exact qZ (rs := [4]) hS rfl rfl (hret Yr _ (qQ hM) (hS.st.pick [] (by kernel_rfl)))
    ·refine wp_skip ?_
     refine qh <| wp_seq <| qo <| sM hS rfl fun hS => sO hS (zC rfl Try.runUnderlying22) rfl fun hS => sM hS rfl fun hS => sO hS (zC rfl Try.runUnderlying22) rfl fun hS => sB hS rfl fun hS => sM hS rfl fun hS => xi (fun a w => ∃ (YF : Bool), Ss 105 [] [(0, .slice A2 often1.length c3), (1, .int .i64 most6), (6, .slice Yd Yb.length Ye), (60, .bool YF)] H [Yg] F a w ∧ (qg.j3 K often1 most6 Yb YF).wp kr kp) 4 (fun Y6 Yw => ?_) ?_
     ·refine uW (b := ((Yb.length : Int) != (often1.length : Int))) hM (fun Yl hM => ?_) (fun Yl hM => ?_)
      ·replace hS := hS.re 55 (v := .bool true) rfl (congrArg Value.bool Yl)
       replace hS := hS.re 56 (v := .bool true) rfl (congrArg Value.bool Yl)
       refine yW 3 hS rfl fun a w hS => sO hS (pk rfl rfl rfl) rfl fun hS => qK <| qh ?_
       exact Yw _ _ ⟨true, hS.to [0] (by kernel_rfl) ⟨rfl, rfl, rfl, rfl, trivial⟩, hM⟩
      ·replace hS := hS.re 55 (v := .bool false) rfl (congrArg Value.bool Yl)
       replace hS := hS.re 56 (v := .bool false) rfl (congrArg Value.bool Yl)
       refine qX hS rfl rfl rfl rfl (mv rfl) rfl fun a w hS => xD hS rfl rfl rfl rfl <| qT hS rfl Try.call13 (yn hG K Yb Yd Ye (Yf.rdF (i := 0) rfl) (Yf.cap (fun _ => rfl) rfl) (hS.st.part 0 [0] (by kernel_rfl)) (qE hM) (fun YZ w hM  hst => qP hS.ev hst.appF rfl fun hS => ?_))
       replace hS : Ss _ _ _ H [Yg] F _ _ := hS
       refine qX hS rfl rfl rfl rfl (xq rfl rfl rfl) rfl fun a w hS => sO hS (pk rfl rfl rfl) rfl fun hS => qK <| qh ?_
       exact Yw _ _ ⟨(YZ != (0 : Int)), hS.to [0] (by kernel_rfl) ⟨rfl, rfl, rfl, rfl, trivial⟩, hM⟩
     ·intro a w hI
      obtain ⟨YF, hS, hM⟩ := hI
      rw [qg.j3] at hM
      refine qz <| qv hS rfl hM (fun YQ hM => ?_) (fun YQ hM => ?_)
      ·refine wp_seq ?_
       refine zh <| sA hS rfl fun hS => qz <| wp_ret <| qy ?_
       exact qZ (rs := [4]) hS rfl rfl (hret false _ (qQ hM) (hS.st.pick [] (by kernel_rfl)))
      ·refine wp_skip ?_
       refine qh <| qo <| sA hS rfl fun hS => qz <| qR (fun a w => ∃ (Yi : Int), Ss 105 [] [(0, .slice A2 often1.length c3), (1, .int .i64 most6), (8, .int .i64 Yi)] H [] F a w ∧ (qg.j6 K often1 most6 Yi).wp kr kp) (fun Y9 YM => ?_) ?_
       ·refine wp_seq ?_
        refine zh <| sA hS rfl fun hS => qz <| zP <| qU (fun YD a w => ∃ (Yc : Int) (Ya : Int), Ss 105 [] [(0, .slice A2 often1.length c3), (1, .int .i64 most6), (6, .slice Yd Yb.length Ye), (8, .int .i64 Yc), (9, .int .i64 Ya)] H [Yg] F a w ∧ (qg.l4 K often1 most6 Yb YD Yc Ya).wp kr kp) K ?_ ?_ ?_
        ·exact ⟨(0 : Int), (0 : Int), hS.to [0] (by kernel_rfl) ⟨rfl, rfl, rfl, rfl, rfl, trivial⟩, hM⟩
        ·intro a w hI; obtain ⟨_, _, _, hM⟩ := hI; exact qS hM
        ·intro YD a w hI Y8 YL
         obtain ⟨Yc, Ya, hS, hM⟩ := hI
         rw [qg.l4] at hM
         refine wp_seq <| qo <| sM hS rfl fun hS => sM hS rfl fun hS => sO hS (zC rfl Try.runUnderlying22) rfl fun hS => sB hS rfl fun hS => qz <| qv hS rfl hM (fun YR hM => ?_) (fun YR hM => ?_)
         ·refine wp_skip ?_
          refine qh <| wp_seq <| zP <| wp_seq <| qR (fun a w => ∃ (YG : Bool), Ss 105 [] [(0, .slice A2 often1.length c3), (1, .int .i64 most6), (6, .slice Yd Yb.length Ye), (8, .int .i64 Yc), (9, .int .i64 Ya), (85, .bool YG)] H [Yg] F a w ∧ (qg.j5 K (qg.l4 K often1 most6 Yb YD) often1 Yb Yc Ya YG).wp kr kp) (fun Y7 Yx => ?_) ?_
          ·obtain ⟨Yh, hM⟩ := qx hM
           refine uW (b := (decide ((rd Yb Ya) > most6))) hM (fun Yq hM => ?_) (fun Yq hM => ?_)
           ·refine zc (vals := [some (.slice Yd Yb.length Ye), some (.int .i64 Ya), some (zn Yd (Int.toNat Ya * 1)), some (.int .i64 (rd Yb Ya)), some (.int .i64 most6), some (.bool true), some (.bool true), some (undef), some (undef), some (undef), some (undef), some (undef), some (undef), some (undef), some (undef), some (undef), some (undef), some (undef), some (.bool true)]) hS xc rfl ?_
            intro l w ho hcl hA hst
            refine x8 hA hst ho hcl xe [0, 1, 2, 3, 4, 5, 6, 7, 8, 9, 10, 11, 12, 13, 14, 15, 16, 17, 18] rfl rfl rfl (by exact ⟨nM rfl, nM rfl, nQ rfl (by exact qW (zM rfl rfl Try.runUnderlying22 Try.sizeOf3 (Yf.rd (i := 0) rfl) (fun _ => rfl) rfl Yh) rfl), nQ rfl (by exact qW (zL rfl (Yf.rd (i := 0) rfl) (fun _ => rfl) Yh rfl Try.isAgg3) rfl), nM rfl, nQ rfl (by exact qW (xq rfl rfl rfl) (congrArg Value.bool Yq)), nM rfl, nS rfl rfl rfl rfl rfl rfl rfl rfl rfl, nS rfl rfl rfl rfl rfl rfl rfl rfl rfl, nS rfl rfl rfl rfl rfl rfl rfl rfl rfl, nS rfl rfl rfl rfl rfl rfl rfl rfl rfl, nS rfl rfl rfl rfl rfl rfl rfl rfl rfl, nS rfl rfl rfl rfl rfl rfl rfl rfl rfl, nS rfl rfl rfl rfl rfl rfl rfl rfl rfl, nS rfl rfl rfl rfl rfl rfl rfl rfl rfl, nS rfl rfl rfl rfl rfl rfl rfl rfl rfl, nS rfl rfl rfl rfl rfl rfl rfl rfl rfl, nS rfl rfl rfl rfl rfl rfl rfl rfl rfl, nQ rfl (by exact qW (pk rfl rfl rfl) rfl), trivial⟩) fun a w hS => ?_
            replace hS := hS.env2 (e' := [(0, .slice A2 often1.length c3), (1, .int .i64 most6), (6, .slice Yd Yb.length Ye), (8, .int .i64 Yc), (9, .int .i64 Ya), (85, .bool true)]) ⟨rfl, rfl, rfl, rfl, rfl, rfl, trivial⟩
            refine qh ?_
            exact Yx _ _ ⟨true, hS.to [0] (by kernel_rfl) ⟨rfl, rfl, rfl, rfl, rfl, rfl, trivial⟩, hM⟩
           ·obtain ⟨Yz, hM⟩ := qx hM
            refine zc (vals := [some (.slice Yd Yb.length Ye), some (.int .i64 Ya), some (zn Yd (Int.toNat Ya * 1)), some (.int .i64 (rd Yb Ya)), some (.int .i64 most6), some (.bool false), some (.bool false), some (.slice Yd Yb.length Ye), some (.int .i64 Ya), some (zn Yd (Int.toNat Ya * 1)), some (.int .i64 (rd Yb Ya)), some (.bool ((rd Yb Ya) == (0 : Int))), some (.slice A2 often1.length c3), some (.int .i64 Ya), some (zn A2 (Int.toNat Ya * 1)), some (.int .i64 (rd often1 Ya)), some (.bool ((rd often1 Ya) == (0 : Int))), some (.bool (!(((rd Yb Ya) == (0 : Int)) == ((rd often1 Ya) == (0 : Int))))), some (.bool (!(((rd Yb Ya) == (0 : Int)) == ((rd often1 Ya) == (0 : Int)))))]) hS xc rfl ?_
            intro l w ho hcl hA hst
            refine x8 hA hst ho hcl xe [0, 1, 2, 3, 4, 5, 6, 7, 8, 9, 10, 11, 12, 13, 14, 15, 16, 17, 18] rfl rfl rfl (by exact ⟨nM rfl, nM rfl, nQ rfl (by exact qW (zM rfl rfl Try.runUnderlying22 Try.sizeOf3 (Yf.rd (i := 0) rfl) (fun _ => rfl) rfl Yh) rfl), nQ rfl (by exact qW (zL rfl (Yf.rd (i := 0) rfl) (fun _ => rfl) Yh rfl Try.isAgg3) rfl), nM rfl, nQ rfl (by exact qW (xq rfl rfl rfl) (congrArg Value.bool Yq)), nM rfl, nW rfl rfl rfl rfl rfl rfl rfl rfl (by exact qW (mv rfl) rfl), nW rfl rfl rfl rfl rfl rfl rfl rfl (by exact qW (mv rfl) rfl), nW rfl rfl rfl rfl rfl rfl rfl rfl (by exact qW (zM rfl rfl Try.runUnderlying22 Try.sizeOf3 (Yf.rd (i := 0) rfl) (fun _ => rfl) rfl Yh) rfl), nW rfl rfl rfl rfl rfl rfl rfl rfl (by exact qW (zL rfl (Yf.rd (i := 0) rfl) (fun _ => rfl) Yh rfl Try.isAgg3) rfl), nW rfl rfl rfl rfl rfl rfl rfl rfl (by exact qW (xq rfl rfl rfl) rfl), nW rfl rfl rfl rfl rfl rfl rfl rfl (by exact qW (mv rfl) rfl), nW rfl rfl rfl rfl rfl rfl rfl rfl (by exact qW (mv rfl) rfl), nW rfl rfl rfl rfl rfl rfl rfl rfl (by exact qW (zM rfl rfl Try.runUnderlying22 Try.sizeOf3 hr4.wk (fun _ => rfl) rfl Yz) rfl), nW rfl rfl rfl rfl rfl rfl rfl rfl (by exact qW (zL rfl hr4.wk (fun _ => rfl) Yz rfl Try.isAgg3) rfl), nW rfl rfl rfl rfl rfl rfl rfl rfl (by exact qW (xq rfl rfl rfl) rfl), nW rfl rfl rfl rfl rfl rfl rfl rfl (by exact qW (ZK rfl rfl Try.runUnderlying4 rfl) rfl), nQ rfl (by exact qW (pk rfl rfl rfl) rfl), trivial⟩) fun a w hS => ?_
            replace hS := hS.env2 (e' := [(0, .slice A2 often1.length c3), (1, .int .i64 most6), (6, .slice Yd Yb.length Ye), (8, .int .i64 Yc), (9, .int .i64 Ya), (85, .bool (!(((rd Yb Ya) == (0 : Int)) == ((rd often1 Ya) == (0 : Int)))))]) ⟨rfl, rfl, rfl, rfl, rfl, rfl, trivial⟩
            refine qh ?_
            exact Yx _ _ ⟨(!(((rd Yb Ya) == (0 : Int)) == ((rd often1 Ya) == (0 : Int)))), hS.to [0] (by kernel_rfl) ⟨rfl, rfl, rfl, rfl, rfl, rfl, trivial⟩, hM⟩
          ·intro a w hI
           obtain ⟨YG, hS, hM⟩ := hI
           rw [qg.j5] at hM
           refine qv hS rfl hM (fun YS hM => ?_) (fun YS hM => ?_)
           ·refine wp_seq ?_
            refine zh <| sA hS rfl fun hS => qz <| wp_ret <| qy (zy (qy (qy (zy (qy ?_)))))
            exact qZ (rs := [4]) hS rfl rfl (hret false _ (qQ hM) (hS.st.pick [] (by kernel_rfl)))
           ·refine wp_skip ?_
            refine qh ?_
            obtain ⟨YA, hM⟩ := qx hM
            obtain ⟨YB, hM⟩ := qx hM
            obtain ⟨Yo, YC⟩ : ∃ x, x = (ql (Yc + (ql ((rd Yb Ya) * (rd often1 Ya))))) := ⟨_, rfl⟩
            replace hM := qA YC hM
            refine zc (vals := [some (.int .i64 Yc), some (.slice Yd Yb.length Ye), some (.int .i64 Ya), some (zn Yd (Int.toNat Ya * 1)), some (.int .i64 (rd Yb Ya)), some (.slice A2 often1.length c3), some (.int .i64 Ya), some (zn A2 (Int.toNat Ya * 1)), some (.int .i64 (rd often1 Ya)), some (.int .i64 (ql ((rd Yb Ya) * (rd often1 Ya)))), some (.int .i64 (ql (Yc + (ql ((rd Yb Ya) * (rd often1 Ya)))))), some (.int .i64 Yo)]) hS xc rfl ?_
            intro l w ho hcl hA hst
            refine x8 hA hst ho hcl xe [0, 1, 2, 3, 4, 5, 6, 7, 8, 9, 10, 11] rfl rfl rfl (by exact ⟨nM rfl, nM rfl, nM rfl, nQ rfl (by exact qW (zM rfl rfl Try.runUnderlying22 Try.sizeOf3 (Yf.rd (i := 0) rfl) (fun _ => rfl) rfl YA) rfl), nQ rfl (by exact qW (zL rfl (Yf.rd (i := 0) rfl) (fun _ => rfl) YA rfl Try.isAgg3) rfl), nM rfl, nM rfl, nQ rfl (by exact qW (zM rfl rfl Try.runUnderlying22 Try.sizeOf3 hr4.wk (fun _ => rfl) rfl YB) rfl), nQ rfl (by exact qW (zL rfl hr4.wk (fun _ => rfl) YB rfl Try.isAgg3) rfl), nB rfl, nB rfl, nQ rfl (by exact qW (zG rfl) (congrArg (Value.int .i64) YC.symm)), trivial⟩) fun a w hS => ?_
            replace hS := hS.env2 (e' := [(0, .slice A2 often1.length c3), (1, .int .i64 most6), (6, .slice Yd Yb.length Ye), (8, .int .i64 Yo), (9, .int .i64 Ya)]) ⟨rfl, rfl, rfl, rfl, rfl, trivial⟩
            refine ze (qh ?_)
            refine zh <| sM hS rfl fun hS => sB hS rfl fun hS => zb (v := Value.int .i64) (x0 := (ql (Ya + (1 : Int)))) hS (zG rfl) rfl fun YU a w hz hS => ?_
            have hM := qA hz hM; clear hz
            refine qK <| qh ?_
            exact YL _ _ ⟨Yo, YU, hS.to [0] (by kernel_rfl) ⟨rfl, rfl, rfl, rfl, rfl, trivial⟩, hM⟩
         ·refine wp_exit ?_
          refine qu (qu (qJ (qh ?_)))
          exact YM _ _ ⟨Yc, hS.to [] (by kernel_rfl) ⟨rfl, rfl, rfl, trivial⟩, hM⟩
       ·intro a w hI
        obtain ⟨Yi, hS, hM⟩ := hI
        rw [qg.j6] at hM
        refine qo <| sM hS rfl fun hS => sM hS rfl fun hS => sM hS rfl fun hS => qT hS rfl Try.call22 (yo hG K often1 most6 A2 c3 (hr4.app _) hc5 (hS.st.part 0 [] (by kernel_rfl)) (qE hM) (fun Y0 w hM  hst => qP hS.ev hst.appF rfl fun hS => ?_))
        replace hS : Ss _ _ _ H [] F _ _ := hS
        refine sB hS rfl fun hS => sM hS rfl fun hS => xi (fun a w => ∃ (Ys : Bool), Ss 105 [] [(104, .bool Ys)] H [] F a w ∧ (qg.j7 K Ys).wp kr kp) 2 (fun Ja Yy => ?_) ?_
        ·refine uW (b := (Yi == Y0)) hM (fun Ym hM => ?_) (fun Ym hM => ?_)
         ·replace hS := hS.re 101 (v := .bool true) rfl (congrArg Value.bool Ym)
          replace hS := hS.re 102 (v := .bool true) rfl (congrArg Value.bool Ym)
          refine xD hS rfl rfl rfl rfl <| qT hS rfl Try.call14 (zZ hG K  (hS.st.part 0 [] (by kernel_rfl)) (qE hM) (fun Y3 w hM  hst => qP hS.ev hst.appF rfl fun hS => ?_) (fun v w hk hst => yr (q6 (q6 (⟨hS.ev.defs, hpan _ _ hk hst.appF.frame⟩)))))
          replace hS : Ss _ _ _ H [] F _ _ := hS
          refine sO hS (pk rfl rfl rfl) rfl fun hS => qK <| qh ?_
          exact Yy _ _ ⟨Y3, hS.to [] (by kernel_rfl) ⟨rfl, trivial⟩, hM⟩
         ·replace hS := hS.re 101 (v := .bool false) rfl (congrArg Value.bool Ym)
          replace hS := hS.re 102 (v := .bool false) rfl (congrArg Value.bool Ym)
          refine yW 1 hS rfl fun a w hS => sO hS (pk rfl rfl rfl) rfl fun hS => qK <| qh ?_
          exact Yy _ _ ⟨false, hS.to [] (by kernel_rfl) ⟨rfl, trivial⟩, hM⟩
        ·intro a w hI
         obtain ⟨Ys, hS, hM⟩ := hI
         rw [qg.j7] at hM
         refine sA hS rfl fun hS => qz <| wp_ret ?_
         exact qZ (rs := [4]) hS rfl rfl (hret Ys _ (qQ hM) (hS.st.pick [] (by kernel_rfl)))
end Go.TryS

