/- Printed by a program of mine: each Go function answers what its model answers; conditions: what each theorem asks of memory. -/
import Derived.Test.YtlaobafbdllajaaDoorP1xabehh
set_option linter.unusedVariables false
set_option linter.unusedSimpArgs false
set_option maxRecDepth 100000
namespace Go.TrydS
open Go Go.Sl Go.Mo Go.Proofs
attribute [local irreducible] qQ.wp
theorem jl {H : zg} {F : List qi} {w : World} {R : Ending → World → Prop} {kr : (Int × (List qb) × Int) → Prop} {kp : Value → Prop} (hG : Gl H) (K : Nat) (Xp : List UInt8)
    (hS : St w H [] F) (hm : (q7.m K Xp).wp kr kp)
    (hret : ∀ (YC : Int) (X4 : Option Addr) (X5 : Nat) (X3 : (List qb)) (X8 : qi) (YD : Int) (w : World), kr (YC, X3, YD) → (zX 36 qb.cells 2 X4 X3 X5 X8) → St w H [X8] F → R (.returned (.tuple ⟨[.int .u32 YC, .slice X4 X3.length X5, .int .i64 YD]⟩)) w) :
    Calls Tryd.prog 10 ⟨[qg Xp]⟩ w R := by
 refine enter Tryd.func10 rfl Tryd.ntmps10 rfl hS fun a w hS => ?_
 have hM := hm; clear hm
 rw [q7.m] at hM
 refine qf <| sA hS rfl fun hS => sA hS rfl fun hS => ?_
 obtain ⟨Xv, Y9, hS⟩ := hS.nilV 36 qb.cells 2
 refine sA hS rfl fun hS => qq <| qf <| sM hS rfl fun hS => ql hS rfl Tryd.call22 (Qa hG K Xp (hS.st.part 0 [0] (by kernel_rfl)) (qe hM) (fun  w hM  hst => qk hS.ev hst.appF rfl fun hS => ?_))
 replace hS : Ss _ _ _ H [Xv] F _ _ := hS
 refine ql hS rfl Tryd.call23 (ya hG K  (hS.st.part 0 [0] (by kernel_rfl)) (qe hM) (fun XF Xr Xs w hM YV YW hst => qk hS.ev hst.appF rfl fun hS => ?_))
 replace hS : Ss _ _ _ H [Xs, Xr, Xv] F _ _ := hS
 refine sO hS (vn ([qg Xp, .int .i64 (0 : Int), qx XF 0]) [(0, 2), (2, 1)] Tryd.zeroValue52 Tryd.runUnderlying52 (by intro w; simp [Tryd.sizeOf47, Tryd.sizeOf49]) rfl rfl) rfl fun hS => bx ([qg Xp, .int .i64 (0 : Int), qx XF 0]) hS rfl rfl rfl fun w XY Xk XE hS => sA hS rfl fun hS => qq <| qf <| sM hS rfl fun hS => sO hS (y6 rfl) rfl fun hS => sO hS (z7 rfl Tryd.runUnderlying52 rfl Tryd.sizeOf47 rfl) rfl fun hS => sO hS (xN 0 rfl XE rfl ([qg Xp, .int .i64 (0 : Int)]) rfl rfl Tryd.isAgg47 Tryd.sizeOf47) rfl fun hS => ql hS rfl Tryd.call24 (zi hG K (qn.mk Xp (0 : Int)) (0 : Int) (12 : Int) (hS.st.part 0 [0, 1, 2, 3] (by kernel_rfl)) (qe hM) (fun Xd Xe Y2 w hM  hst => qk hS.ev hst.appF rfl fun hS => ?_))
 replace hS : Ss _ _ _ H [Xk, Xs, Xr, Xv] F _ _ := hS
 refine sM hS rfl fun hS => sO hS (ex rfl rfl) rfl fun hS => sO hS (ex rfl rfl) rfl fun hS => vR ([qg ([] : List UInt8), .int .i64 (0 : Int)]) hS Tryd.zeroValue47 rfl rfl fun w Je Ji X9 hS => j5 0 ([qg Xd, .int .i64 Xe]) ([qg Xd, .int .i64 Xe]) hS rfl rfl X9 rfl rfl Tryd.sizeOf47 (by simp [Value.oneCell']) (Nat.le_of_ble_eq_true rfl) rfl fun w XG XH hS => sA hS rfl fun hS => qq <| wp_seq <| qf <| sM hS rfl fun hS => sB hS rfl fun hS => qq <| qC hS rfl hM (fun Ys hM => ?_) (fun Ys hM => ?_)
 ·refine wp_seq ?_
  refine zB <| sM hS rfl fun hS => sA hS rfl fun hS => sA hS rfl fun hS => ?_
  obtain ⟨YM, Yh, hS⟩ := hS.nilV 36 qb.cells 2
  refine sA hS rfl fun hS => qq <| wp_ret <| qm ?_
  exact qG (rs := [2, 3, 4]) hS rfl rfl (hret (0 : Int) none (0) ([] : List qb) YM Y2 _ (qz hM) Yh (hS.st.pick [0] (by kernel_rfl)))
 ·refine wp_skip ?_
  refine qc <| qf <| sO hS (xN 0 rfl XH rfl ([qg Xd, .int .i64 Xe]) rfl rfl Tryd.isAgg47 Tryd.sizeOf47) rfl fun hS => ql hS rfl Tryd.call25 (ze hG K (qn.mk Xd Xe) (0 : Int) (4 : Int) (hS.st.part 0 [0, 1, 2, 3, 4] (by kernel_rfl)) (qe hM) (fun Xu Jn w hM  hst => qk hS.ev hst.appF rfl fun hS => ?_))
  replace hS : Ss _ _ _ H [XG, Xk, Xs, Xr, Xv] F _ _ := hS
  refine sM hS rfl fun hS => sO hS (ex rfl rfl) rfl fun hS => sO hS (ex rfl rfl) rfl fun hS => sA hS rfl fun hS => sA hS rfl fun hS => qq <| qf <| sO hS (xN 0 rfl XH rfl ([qg Xd, .int .i64 Xe]) rfl rfl Tryd.isAgg47 Tryd.sizeOf47) rfl fun hS => ql hS rfl Tryd.call25 (ze hG K (qn.mk Xd Xe) (4 : Int) (2 : Int) (hS.st.part 0 [0, 1, 2, 3, 4] (by kernel_rfl)) (qe hM) (fun Y3 Jo w hM  hst => qk hS.ev hst.appF rfl fun hS => ?_))
  replace hS : Ss _ _ _ H [XG, Xk, Xs, Xr, Xv] F _ _ := hS
  refine sM hS rfl fun hS => sO hS (ex rfl rfl) rfl fun hS => sO hS (ex rfl rfl) rfl fun hS => sA hS rfl fun hS => sA hS rfl fun hS => qq <| qf <| sM hS rfl fun hS => sO hS (yC rfl Tryd.runUnderlying55 Tryd.runUnderlying3) rfl fun hS => q9 (v := Value.int .i64) (x0 := (wr .i64 Y3)) hS (zP rfl) rfl fun Xh a w hz hS => ?_
  have hM := qE hz hM; clear hz
  refine qq <| wp_seq <| qf <| sM hS rfl fun hS => sO hS (yC rfl Tryd.runUnderlying55 Tryd.runUnderlying23) rfl fun hS => ql hS rfl Tryd.call26 (yF hG K (wr .u32 Xu) (hS.st.part 0 [0, 1, 2, 3, 4] (by kernel_rfl)) (qe hM) (fun X2 w hM  hst => qk hS.ev hst.appF rfl fun hS => ?_))
  replace hS : Ss _ _ _ H [XG, Xk, Xs, Xr, Xv] F _ _ := hS
  refine sO hS (un rfl rfl) rfl fun hS => sM hS rfl fun hS => z4 2 false 55 (b := (!X2)) (r := (decide (Xh < (1 : Int)))) hS rfl rfl rfl rfl rfl rfl rfl (fun hb a w hS K hK => ?_) rfl fun a w hS => ?_
  ·refine qI hS rfl rfl rfl hb (mv rfl) rfl fun a w hS => ?_
   refine qI hS rfl rfl rfl hb (xk rfl rfl rfl) rfl fun a w hS => ?_
   exact qY (hK _ _ (hS.up 2 rfl rfl))
  refine sM hS rfl fun hS => z4 2 false 59 (b := ((!X2) || (decide (Xh < (1 : Int))))) (r := (decide (Xh > (1000 : Int)))) hS rfl rfl rfl rfl rfl rfl rfl (fun hb a w hS K hK => ?_) rfl fun a w hS => ?_
  ·refine qI hS rfl rfl rfl hb (mv rfl) rfl fun a w hS => ?_
   refine qI hS rfl rfl rfl hb (xk rfl rfl rfl) rfl fun a w hS => ?_
   exact qY (hK _ _ (hS.up 2 rfl rfl))
  refine sM hS rfl fun hS => xv (fun a w => ∃ (X1 : Bool), Ss 142 [] [(5, qx XY 0), (8, .int .u64 Xu), (12, .int .i64 Xh), (71, .bool X1)] H [Xk, Xs, Xr] F a w ∧ (q7.j1 K Xp Xu Xh X1).wp kr kp) 8 (fun Jb XV => ?_) ?_
  ·refine uf (b := (((!X2) || (decide (Xh < (1 : Int)))) || (decide (Xh > (1000 : Int))))) hM (fun Xw hM => ?_) (fun Xw hM => ?_)
   ·replace hS := hS.re 62 (v := .bool true) rfl (congrArg Value.bool Xw)
    replace hS := hS.re 63 (v := .bool true) rfl (congrArg Value.bool Xw)
    refine jn 7 hS rfl fun a w hS => sO hS (pk rfl rfl rfl) rfl fun hS => qY <| qc ?_
    exact XV _ _ ⟨true, hS.to [1, 2, 3] (by kernel_rfl) ⟨rfl, rfl, rfl, rfl, trivial⟩, hM⟩
   ·replace hS := hS.re 62 (v := .bool false) rfl (congrArg Value.bool Xw)
    replace hS := hS.re 63 (v := .bool false) rfl (congrArg Value.bool Xw)
    refine qI hS rfl rfl rfl rfl (xN 0 rfl XH rfl ([qg Xd, .int .i64 Xe]) rfl rfl Tryd.isAgg47 Tryd.sizeOf47) rfl fun a w hS => xp hS rfl rfl rfl rfl <| ql hS rfl Tryd.call27 (zA hG K (qn.mk Xd Xe) (hS.st.part 0 [0, 1, 2, 3, 4] (by kernel_rfl)) (qe hM) (fun  w hM  hst => qk hS.ev hst.appF rfl fun hS => ?_))
    replace hS : Ss _ _ _ H [XG, Xk, Xs, Xr, Xv] F _ _ := hS
    refine qI hS rfl rfl rfl rfl (mv rfl) rfl fun a w hS => qI hS rfl rfl rfl rfl (yC rfl Tryd.runUnderlying55 Tryd.runUnderlying23) rfl fun a w hS => qI hS rfl rfl rfl rfl (mv rfl) rfl fun a w hS => xp hS rfl rfl rfl rfl <| ql hS rfl Tryd.call28 (jm hG K (wr .u32 Xu) Xh (hS.st.part 0 [0, 1, 2, 3, 4] (by kernel_rfl)) (qe hM) (fun Y4 w hM  hst => qk hS.ev hst.appF rfl fun hS => ?_))
    replace hS : Ss _ _ _ H [XG, Xk, Xs, Xr, Xv] F _ _ := hS
    refine qI hS rfl rfl rfl rfl (jK rfl rfl rfl) rfl fun a w hS => sO hS (pk rfl rfl rfl) rfl fun hS => qY <| qc ?_
    exact XV _ _ ⟨(!(Xd == Y4)), hS.to [1, 2, 3] (by kernel_rfl) ⟨rfl, rfl, rfl, rfl, trivial⟩, hM⟩
  ·intro a w hI
   obtain ⟨X1, hS, hM⟩ := hI
   rw [q7.j1] at hM
   refine qq <| qC hS rfl hM (fun Yt hM => ?_) (fun Yt hM => ?_)
   ·refine wp_seq ?_
    refine zB <| sA hS rfl fun hS => sA hS rfl fun hS => ?_
    obtain ⟨YN, Yi, hS⟩ := hS.nilV 36 qb.cells 2
    refine sA hS rfl fun hS => qq <| wp_ret <| qm ?_
    exact qG (rs := [2, 3, 4]) hS rfl rfl (hret (0 : Int) none (0) ([] : List qb) YN (3 : Int) _ (qz hM) Yi (hS.st.pick [0] (by kernel_rfl)))
   ·refine wp_skip ?_
    refine qc <| qf <| sM hS rfl fun hS => sO hS (y6 rfl) rfl fun hS => sO hS (z7 rfl Tryd.runUnderlying52 rfl Tryd.sizeOf47 rfl) rfl fun hS => sO hS (xN 0 rfl XE rfl ([qg Xp, .int .i64 (0 : Int)]) rfl rfl Tryd.isAgg47 Tryd.sizeOf47) rfl fun hS => sM hS rfl fun hS => sB hS rfl fun hS => ql hS rfl Tryd.call24 (zi hG K (qn.mk Xp (0 : Int)) (12 : Int) (qB ((16 : Int) * Xh)) (hS.st.part 0 [0, 1, 2] (by kernel_rfl)) (qe hM) (fun Xo Xm Y5 w hM  hst => qk hS.ev hst.appF rfl fun hS => ?_))
    replace hS : Ss _ _ _ H [Xk, Xs, Xr] F _ _ := hS
    refine sM hS rfl fun hS => sO hS (ex rfl rfl) rfl fun hS => sO hS (ex rfl rfl) rfl fun hS => vR ([qg ([] : List UInt8), .int .i64 (0 : Int)]) hS Tryd.zeroValue47 rfl rfl fun w YI Jj Ya hS => j5 0 ([qg Xo, .int .i64 Xm]) ([qg Xo, .int .i64 Xm]) hS rfl rfl Ya rfl rfl Tryd.sizeOf47 (by simp [Value.oneCell']) (Nat.le_of_ble_eq_true rfl) rfl fun w XA Yb hS => sA hS rfl fun hS => qq <| wp_seq <| qf <| sM hS rfl fun hS => sB hS rfl fun hS => qq <| qC hS rfl hM (fun Yu hM => ?_) (fun Yu hM => ?_)
    ·refine wp_seq ?_
     refine zB <| sM hS rfl fun hS => sA hS rfl fun hS => sA hS rfl fun hS => ?_
     obtain ⟨YO, Yj, hS⟩ := hS.nilV 36 qb.cells 2
     refine sA hS rfl fun hS => qq <| wp_ret <| qm ?_
     exact qG (rs := [2, 3, 4]) hS rfl rfl (hret (0 : Int) none (0) ([] : List qb) YO Y5 _ (qz hM) Yj (hS.st.pick [0] (by kernel_rfl)))
    ·refine wp_skip ?_
     refine qc <| qf <| sM hS rfl fun hS => sO hS (y6 rfl) rfl fun hS => sO hS (z7 rfl Tryd.runUnderlying52 rfl Tryd.sizeOf49 rfl) rfl fun hS => sO hS (xm 1 rfl XE rfl rfl Tryd.isAgg49) rfl fun hS => sM hS rfl fun hS => sB hS rfl fun hS => sB hS rfl fun hS => ql hS rfl Tryd.call29 (zV hG K (qv.mk ([] : List qa)) (0 : Int) (qB ((12 : Int) + (qB ((16 : Int) * Xh)))) ([] : List UInt8) XF Xs none (0) Xr YW YV (hS.st.part 2 [2, 3, 0, 1] (by kernel_rfl)) (qe hM) (fun Jp YF YJ XJ X6 X7 w hM YX YY hst => qk hS.ev hst.appF rfl fun hS => ?_))
     replace hS : Ss _ _ _ H [X7, X6, XA, Xk] F _ _ := hS
     refine qq <| qf <| sA hS rfl fun hS => ?_
     obtain ⟨YP, Yk, hS⟩ := hS.nilV 36 qb.cells 2
     refine qq <| qf <| sA hS rfl fun hS => sA hS rfl fun hS => qq <| zp (fun a w => ∃ (XO : Option Addr) (XR : Nat) (Xy : (List qb)) (XT : qi) (Xz : Int), Ss 142 [] [(8, .int .u64 Xu), (14, .slice XO Xy.length XR), (15, .int .i64 Xz)] H [XT] F a w ∧ (zX 36 qb.cells 2 XO Xy XR XT) ∧ (q7.j3 K Xu Xy Xz).wp kr kp) (fun Jd Yg => ?_) ?_
     ·refine wp_seq ?_
      refine zB <| sM hS rfl fun hS => sM hS rfl fun hS => qq <| xT <| zo (fun YB a w => ∃ (XM : Option Addr) (XP : Nat) (Xi : (List qa)) (XB : qi) (XC : qi) (XN : Option Addr) (XQ : Nat) (Xx : (List qb)) (Xt : qi) (Xq : Int) (Xn : List UInt8) (XL : Int), Ss 142 [] [(5, qx XY 0), (8, .int .u64 Xu), (13, qx YI 0), (14, .slice XN Xx.length XQ), (15, .int .i64 Xq), (16, qg Xn), (93, .int .i64 Xh), (94, .int .i64 XL)] H [Xk, XC, XB, XA, Xt] F a w ∧ (zX 93 qa.cells 3 XM Xi XP XB) ∧ (x9 XC XF ([.slice XM Xi.length XP]) 87) ∧ (zX 36 qb.cells 2 XN Xx XQ Xt) ∧ (q7.l2 K Xp Xu Xh Xo Xm YB Xi Xx Xq Xn XL).wp kr kp) K ?_ ?_ ?_
      ·exact ⟨YF, YJ, XJ, X6, X7, none, 0, ([] : List qb), YP, (0 : Int), ([] : List UInt8), (0 : Int), hS.to [4, 1, 2, 3, 0] (by kernel_rfl) ⟨rfl, rfl, rfl, rfl, rfl, rfl, rfl, rfl, trivial⟩, YX, YY, Yk, hM⟩
      ·intro a w hI; obtain ⟨_, _, _, _, _, _, _, _, _, _, _, _, _, _, _, _, hM⟩ := hI; exact zj hM
      ·intro YB a w hI Jc Yf
       obtain ⟨XM, XP, Xi, XB, XC, XN, XQ, Xx, Xt, Xq, Xn, XL, hS, Yl, Yc, XW, hM⟩ := hI
       rw [q7.l2] at hM
       refine qf <| sB hS rfl fun hS => qq <| wp_seq <| qC hS rfl hM (fun Yv hM => ?_) (fun Yv hM => ?_)
       ·refine wp_skip ?_
        refine qc <| wp_seq <| xT <| qf <| sM hS rfl fun hS => sA hS rfl fun hS => qq <| qf <| sO hS (xN 3 rfl Yb rfl ([qg Xo, .int .i64 Xm]) rfl rfl Tryd.isAgg47 Tryd.sizeOf47) rfl fun hS => sM hS rfl fun hS => sB hS rfl fun hS => ql hS rfl Tryd.call24 (zi hG K (qn.mk Xo Xm) (qB ((16 : Int) * XL)) (16 : Int) (hS.st.part 0 [0, 1, 2, 3, 4] (by kernel_rfl)) (qe hM) (fun Xg Xj Jq w hM  hst => qk hS.ev hst.appF rfl fun hS => ?_))
        replace hS : Ss _ _ _ H [Xk, XC, XB, XA, Xt] F _ _ := hS
        refine sM hS rfl fun hS => sO hS (ex rfl rfl) rfl fun hS => sO hS (ex rfl rfl) rfl fun hS => vR ([qg ([] : List UInt8), .int .i64 (0 : Int)]) hS Tryd.zeroValue47 rfl rfl fun w Jf Jk Yd hS => j5 0 ([qg Xg, .int .i64 Xj]) ([qg Xg, .int .i64 Xj]) hS rfl rfl Yd rfl rfl Tryd.sizeOf47 (by simp [Value.oneCell']) (Nat.le_of_ble_eq_true rfl) rfl fun w XS XU hS => sA hS rfl fun hS => qq <| wp_seq <| qf <| sO hS (xN 0 rfl XU rfl ([qg Xg, .int .i64 Xj]) rfl rfl Tryd.isAgg47 Tryd.sizeOf47) rfl fun hS => ql hS rfl Tryd.call27 (zA hG K (qn.mk Xg Xj) (hS.st.part 0 [0, 1, 2, 3, 4, 5] (by kernel_rfl)) (qe hM) (fun  w hM  hst => qk hS.ev hst.appF rfl fun hS => ?_))
        replace hS : Ss _ _ _ H [XS, Xk, XC, XB, XA, Xt] F _ _ := hS
        obtain ⟨Yz, hM⟩ := qD hM
        refine sO hS (Q3 rfl Tryd.runUnderlying9 Q7 (QP rfl) Yz) rfl fun hS => q9 (v := qg) (x0 := (sub Xg (0 : Int) (4 : Int))) hS (zP rfl) rfl fun XD a w hz hS => ?_
        have hM := qE hz hM; clear hz
        refine qq <| qf <| sM hS rfl fun hS => ql hS rfl Tryd.call30 (yX hG K XD (hS.st.part 0 [0, 1, 2, 3, 4, 5] (by kernel_rfl)) (qe hM) (fun Y6 w hM  hst => qk hS.ev hst.appF rfl fun hS => ?_))
        replace hS : Ss _ _ _ H [XS, Xk, XC, XB, XA, Xt] F _ _ := hS
        refine sO hS (un rfl rfl) rfl fun hS => sM hS rfl fun hS => z4 3 false 110 (b := (!Y6)) (r := (Op.bytesLess XD Xn || XD == Xn)) hS rfl rfl rfl rfl rfl rfl rfl (fun hb a w hS K hK => ?_) rfl fun a w hS => ?_
        ·refine qI hS rfl rfl rfl hb (mv rfl) rfl fun a w hS => ?_
         refine qI hS rfl rfl rfl hb (mv rfl) rfl fun a w hS => qI hS rfl rfl rfl hb (jK rfl rfl rfl) rfl fun a w hS => ?_
         exact qY (hK _ _ (hS.up 3 rfl rfl))
        refine qq <| qC hS rfl hM (fun Yw hM => ?_) (fun Yw hM => ?_)
        ·refine wp_seq ?_
         refine zB <| sA hS rfl fun hS => sA hS rfl fun hS => ?_
         obtain ⟨YQ, Ym, hS⟩ := hS.nilV 36 qb.cells 2
         refine sA hS rfl fun hS => qq <| wp_ret <| qm (zm (qm (qm (zm (qm ?_)))))
         exact qG (rs := [2, 3, 4]) hS rfl rfl (hret (0 : Int) none (0) ([] : List qb) YQ (3 : Int) _ (qz hM) Ym (hS.st.pick [0] (by kernel_rfl)))
        ·refine wp_skip ?_
         refine qc <| qf <| sM hS rfl fun hS => sO hS (xN 0 rfl XU rfl ([qg Xg, .int .i64 Xj]) rfl rfl Tryd.isAgg47 Tryd.sizeOf47) rfl fun hS => ql hS rfl Tryd.call31 (yA hG K (zZ.mk (qn.mk Xp (0 : Int)) (qv.mk Xi)) (qn.mk Xg Xj) XY Xk XF XC XM XP XB XE Yc Yl (hS.st.part 3 [1, 2, 3, 0, 4, 5] (by kernel_rfl)) (qe hM) (fun Xl Xf Y7 YG YK XK XZ X0 w hM YZ Y0 hst => qk hS.ev hst.appF rfl fun hS => ?_))
         replace hS : Ss _ _ _ H [Xk, X0, XZ, XS, XA, Xt] F _ _ := hS
         refine sM hS rfl fun hS => sO hS (ex rfl rfl) rfl fun hS => sO hS (ex rfl rfl) rfl fun hS => vR ([qg ([] : List UInt8), qg ([] : List UInt8)]) hS Tryd.zeroValue36 rfl rfl fun w Jg Jl Ye hS => j5 0 ([qg Xl, qg Xf]) ([qg Xl, qg Xf]) hS rfl rfl Ye rfl rfl Tryd.sizeOf36 (by simp [Value.oneCell']) (Nat.le_of_ble_eq_true rfl) rfl fun w YR XI hS => sA hS rfl fun hS => qq <| wp_seq <| qf <| sM hS rfl fun hS => sB hS rfl fun hS => qq <| qC hS rfl hM (fun Yx hM => ?_) (fun Yx hM => ?_)
         ·refine wp_seq ?_
          refine zB <| sM hS rfl fun hS => sA hS rfl fun hS => sA hS rfl fun hS => ?_
          obtain ⟨YS, Yn, hS⟩ := hS.nilV 36 qb.cells 2
          refine sA hS rfl fun hS => qq <| wp_ret <| qm (zm (qm (qm (zm (qm ?_)))))
          exact qG (rs := [2, 3, 4]) hS rfl rfl (hret (0 : Int) none (0) ([] : List qb) YS Y7 _ (qz hM) Yn (hS.st.pick [0] (by kernel_rfl)))
         ·refine wp_skip ?_
          refine qc <| qf <| sO hS (z7 rfl Tryd.runUnderlying36 rfl Tryd.sizeOf9 rfl) rfl fun hS => sO hS (xm 0 rfl XI rfl rfl Tryd.isAgg9) rfl fun hS => sA hS rfl fun hS => qq <| qf <| sM hS rfl fun hS => sO hS (z7 rfl Tryd.runUnderlying36 rfl Tryd.sizeOf9 rfl) rfl fun hS => sO hS (xm 0 rfl XI rfl rfl Tryd.isAgg9) rfl fun hS => sO hS (zL rfl Tryd.runUnderlying9) rfl fun hS => ql hS rfl Tryd.call32 (xe hG K (Xf.length : Int) (hS.st.part 0 [0, 1, 2, 3, 4, 5, 6] (by kernel_rfl)) (qe hM) (fun Y8 w hM  hst => qk hS.ev hst.appF rfl fun hS => ?_))
          replace hS : Ss _ _ _ H [YR, Xk, X0, XZ, XS, XA, Xt] F _ _ := hS
          refine sB hS rfl fun hS => q9 (v := Value.int .i64) (x0 := (qB (Xq + Y8))) hS (zP rfl) rfl fun XX a w hz hS => ?_
          have hM := qE hz hM; clear hz
          refine qq <| zB <| sM hS rfl fun hS => sO hS (xN 0 rfl XI rfl ([qg Xl, qg Xf]) rfl rfl Tryd.isAgg36 Tryd.sizeOf36) rfl fun hS => Zd (g := qb.cells) ([(qb.mk Xl Xf)] : List qb) [.agg ⟨[qg Xl, qg Xf]⟩] hS Tryd.runUnderlying24 Tryd.sizeOf36 X.el36 rfl rfl rfl (by simp [Value.cells]) rfl rfl rfl rfl rfl fun w Ja Jh Jm Yo hS => ?_
          obtain ⟨YA, hM⟩ := qD hM
          refine Zc (ys := ([(qb.mk Xl Xf)] : List qb)) 7 hS rfl rfl XW rfl (Yo.rd (i := 0) rfl) Tryd.runUnderlying24 Tryd.runUnderlying24 X.el36 (fun _ => rfl) rfl uh YA rfl fun YE w YH YL YT hz Yp hS => ?_
          have hM := qE hz hM; clear hz
          refine sA hS rfl fun hS => qY <| zU (qc ?_)
          refine zB <| sB hS rfl fun hS => sM hS rfl fun hS => qY <| qc ?_
          exact Yf _ _ ⟨YG, YK, XK, XZ, X0, YH, YL, YE, YT, XX, Xl, (qB (XL + (1 : Int))), hS.to [2, 3, 4, 6, 7] (by kernel_rfl) ⟨rfl, rfl, rfl, rfl, rfl, rfl, rfl, rfl, trivial⟩, YZ, Y0, Yp, hM⟩
       ·refine wp_exit ?_
        refine qN (qN (za (qc ?_)))
        exact Yg _ _ ⟨XN, XQ, Xx, Xt, Xq, hS.to [4] (by kernel_rfl) ⟨rfl, rfl, rfl, trivial⟩, XW, hM⟩
     ·intro a w hI
      obtain ⟨XO, XR, Xy, XT, Xz, hS, Yq, hM⟩ := hI
      rw [q7.j3] at hM
      refine wp_seq <| qf <| sM hS rfl fun hS => sB hS rfl fun hS => qq <| qC hS rfl hM (fun Yy hM => ?_) (fun Yy hM => ?_)
      ·refine wp_seq ?_
       refine zB <| sA hS rfl fun hS => sA hS rfl fun hS => ?_
       obtain ⟨YU, Yr, hS⟩ := hS.nilV 36 qb.cells 2
       refine sA hS rfl fun hS => qq <| wp_ret <| qm ?_
       exact qG (rs := [2, 3, 4]) hS rfl rfl (hret (0 : Int) none (0) ([] : List qb) YU (3 : Int) _ (qz hM) Yr (hS.st.pick [0] (by kernel_rfl)))
      ·refine wp_skip ?_
       refine qc <| qf <| sM hS rfl fun hS => sO hS (yC rfl Tryd.runUnderlying55 Tryd.runUnderlying23) rfl fun hS => sM hS rfl fun hS => q9 (v := Value.int .u32) (x0 := (wr .u32 Xu)) hS (zP rfl) rfl fun Y1 a w hz hS => ?_
       have hM := qE hz hM; clear hz
       refine sA hS rfl fun hS => sA hS rfl fun hS => qq <| wp_ret ?_
       exact qG (rs := [2, 3, 4]) hS rfl rfl (hret Y1 XO XR Xy XT (0 : Int) _ (qz hM) Yq (hS.st.pick [0] (by kernel_rfl)))
theorem xA {H : zg} {F : List qi} {w : World} {R : Ending → World → Prop} {kr : Bool → Prop} {kp : Value → Prop} (hG : Gl H) (K : Nat) (Xe : List qb) (Xf : List qb) (Xg : Option Addr) (Xi : Nat) (Xh : Option Addr) (Xj : Nat) (Xm : x2 H [] F qb.cells Xg Xe) (Xv : Xe.length ≤ Xi) (Xn : x2 H [] F qb.cells Xh Xf) (Xw : Xf.length ≤ Xj)
    (hS : St w H [] F) (hm : (qL.m K Xe Xf).wp kr kp)
    (hret : ∀ (Xp : Bool) (w : World), kr Xp → St w H [] F → R (.returned (.bool Xp)) w) :
    Calls Tryd.prog 12 ⟨[.slice Xg Xe.length Xi, .slice Xh Xf.length Xj]⟩ w R := by
 refine enter Tryd.func12 rfl Tryd.ntmps12 rfl hS fun a w hS => ?_
 have hM := hm; clear hm
 rw [qL.m] at hM
 refine qf <| sA hS rfl fun hS => qq <| wp_seq <| qf <| sM hS rfl fun hS => sO hS (z5 rfl Tryd.runUnderlying24) rfl fun hS => sM hS rfl fun hS => sO hS (z5 rfl Tryd.runUnderlying24) rfl fun hS => sB hS rfl fun hS => qq <| qC hS rfl hM (fun Xr hM => ?_) (fun Xr hM => ?_)
 ·refine wp_seq ?_
  refine zB <| sA hS rfl fun hS => qq <| wp_ret <| qm ?_
  exact qG (rs := [4]) hS rfl rfl (hret false _ (qz hM) (hS.st.pick [] (by kernel_rfl)))
 ·refine wp_skip ?_
  refine qc <| wp_seq <| qf <| sA hS rfl fun hS => qq <| xT <| zo (fun Xo a w => ∃ (Xd : Int), Ss 26 [] [(0, .slice Xg Xe.length Xi), (1, .slice Xh Xf.length Xj), (5, .int .i64 Xd)] H [] F a w ∧ (qL.l1 K Xe Xf Xo Xd).wp kr kp) K ?_ ?_ ?_
  ·exact ⟨(0 : Int), hS.to [] (by kernel_rfl) ⟨rfl, rfl, rfl, trivial⟩, hM⟩
  ·intro a w hI; obtain ⟨_, _, hM⟩ := hI; exact zj hM
  ·intro Xo a w hI Xx Xq
   obtain ⟨Xd, hS, hM⟩ := hI
   rw [qL.l1] at hM
   refine wp_seq <| qf <| sM hS rfl fun hS => sM hS rfl fun hS => sO hS (z5 rfl Tryd.runUnderlying24) rfl fun hS => sB hS rfl fun hS => qq <| qC hS rfl hM (fun Xs hM => ?_) (fun Xs hM => ?_)
   ·refine wp_skip ?_
    refine qc <| wp_seq <| xT <| wp_seq ?_
    obtain ⟨Xk, hM⟩ := qD hM
    obtain ⟨Xl, hM⟩ := qD hM
    refine q4 (vals := [some (.slice Xg Xe.length Xi), some (.int .i64 Xd), some (zF Xg (Int.toNat Xd * 2)), some (.agg ⟨[qg ((rd Xe Xd).Tag_), qg ((rd Xe Xd).Data_)]⟩), some (.slice Xh Xf.length Xj), some (.int .i64 Xd), some (zF Xh (Int.toNat Xd * 2)), some (.agg ⟨[qg ((rd Xf Xd).Tag_), qg ((rd Xf Xd).Data_)]⟩), some (.bool (!(((rd Xe Xd).Tag_ == (rd Xf Xd).Tag_) && (((rd Xe Xd).Data_ == (rd Xf Xd).Data_) && true))))]) hS xh rfl ?_
    intro l w ho hcl hA hst
    refine xo hA hst ho hcl xi [0, 1, 2, 3, 4, 5, 6, 7, 8] rfl rfl rfl (by exact ⟨nM rfl, nM rfl, nQ rfl (by exact qr (yD rfl rfl Tryd.runUnderlying24 Tryd.sizeOf36 Xm.wk (fun _ => rfl) rfl Xk) rfl), nQ rfl (by exact qr (Qo rfl Xm.wk (fun _ => rfl) Xk Tryd.isAgg36 Tryd.sizeOf36 rfl) rfl), nM rfl, nM rfl, nQ rfl (by exact qr (yD rfl rfl Tryd.runUnderlying24 Tryd.sizeOf36 Xn.wk (fun _ => rfl) rfl Xl) rfl), nQ rfl (by exact qr (Qo rfl Xn.wk (fun _ => rfl) Xl Tryd.isAgg36 Tryd.sizeOf36 rfl) rfl), nQ rfl (by exact qr (Ze rfl rfl rfl (by kernel_rfl) (by kernel_rfl) (xZ.cons (by decide) Tryd.isAgg9 rfl rfl (ZM Tryd.runUnderlying9) (xZ.cons (by decide) Tryd.isAgg9 rfl rfl (ZM Tryd.runUnderlying9) xZ.nil)) rfl) rfl), trivial⟩) fun a w hS => ?_
    replace hS := hS.env2 (e' := [(0, .slice Xg Xe.length Xi), (1, .slice Xh Xf.length Xj), (5, .int .i64 Xd), (25, .bool (!(((rd Xe Xd).Tag_ == (rd Xf Xd).Tag_) && (((rd Xe Xd).Data_ == (rd Xf Xd).Data_) && true))))]) ⟨rfl, rfl, rfl, rfl, trivial⟩
    refine qc <| qC hS rfl hM (fun Xt hM => ?_) (fun Xt hM => ?_)
    ·refine wp_seq ?_
     refine zB <| sA hS rfl fun hS => qq <| wp_ret <| zm (qm (qm (zm (qm ?_))))
     exact qG (rs := [4]) hS rfl rfl (hret false _ (qz hM) (hS.st.pick [] (by kernel_rfl)))
    ·refine wp_skip ?_
     refine zU (qc ?_)
     refine zB <| sM hS rfl fun hS => sB hS rfl fun hS => q9 (v := Value.int .i64) (x0 := (qB (Xd + (1 : Int)))) hS (zP rfl) rfl fun Xu a w hz hS => ?_
     have hM := qE hz hM; clear hz
     refine qY <| qc ?_
     exact Xq _ _ ⟨Xu, hS.to [] (by kernel_rfl) ⟨rfl, rfl, rfl, trivial⟩, hM⟩
   ·refine wp_exit ?_
    refine qN (qN (za (qc ?_)))
    refine qf <| sA hS rfl fun hS => qq <| wp_ret ?_
    exact qG (rs := [4]) hS rfl rfl (hret true _ (qz hM) (hS.st.pick [] (by kernel_rfl)))
theorem xz {H : zg} {F : List qi} {w : World} {R : Ending → World → Prop} {kr : Bool → Prop} {kp : Value → Prop} (hG : Gl H) (K : Nat)
    (hS : St w H [] F) (hm : (qU.m K).wp kr kp)
    (hret : ∀ (Xm : Bool) (w : World), kr Xm → St w H [] F → R (.returned (.bool Xm)) w) :
    Calls Tryd.prog 9 ⟨[]⟩ w R := by
 refine enter Tryd.func9 rfl Tryd.ntmps9 rfl hS fun a w hS => ?_
 have hM := hm; clear hm
 rw [qU.m] at hM
 refine qf <| sA hS rfl fun hS => qq <| qf <| sO hS (vn ([qg ([104, 101, 97, 100] : List UInt8), qg ([97, 98, 99, 100, 101] : List UInt8)]) [(0, 1), (1, 1)] Tryd.zeroValue36 Tryd.runUnderlying36 (by intro w; simp [Tryd.sizeOf9]) rfl rfl) rfl fun hS => Zd (g := qb.cells) ([(qb.mk ([104, 101, 97, 100] : List UInt8) ([97, 98, 99, 100, 101] : List UInt8))] : List qb) [.agg ⟨[qg ([104, 101, 97, 100] : List UInt8), qg ([97, 98, 99, 100, 101] : List UInt8)]⟩] hS Tryd.runUnderlying24 Tryd.sizeOf36 X.el36 rfl rfl rfl (by simp [Value.cells]) rfl rfl rfl rfl rfl fun w Xu Xw Xp Xf hS => sA hS rfl fun hS => qq <| qf <| sM hS rfl fun hS => ql hS rfl Tryd.call14 (x6 hG K (65536 : Int) ([(qb.mk ([104, 101, 97, 100] : List UInt8) ([97, 98, 99, 100, 101] : List UInt8))] : List qb) Xu Xw (Xf.rdF (i := 0) rfl) (Xf.cap (fun _ => rfl) rfl) (hS.st.part 0 [0] (by kernel_rfl)) (qe hM) (fun Xh Xk w hM  hst => qk hS.ev hst.appF rfl fun hS => ?_))
 replace hS : Ss _ _ _ H [Xp] F _ _ := hS
 refine sM hS rfl fun hS => sO hS (ex rfl rfl) rfl fun hS => sO hS (ex rfl rfl) rfl fun hS => sA hS rfl fun hS => sA hS rfl fun hS => qq <| qf <| sM hS rfl fun hS => ql hS rfl Tryd.call10 (jl hG K Xh (hS.st.part 0 [0] (by kernel_rfl)) (qe hM) (fun Xo Xv Xx Xy Xj Xt w hM Xq hst => qk hS.ev hst.appF rfl fun hS => ?_))
 replace hS : Ss _ _ _ H [Xj, Xp] F _ _ := hS
 refine sM hS rfl fun hS => sO hS (ex rfl rfl) rfl fun hS => sO hS (ex rfl rfl) rfl fun hS => sO hS (ex rfl rfl) rfl fun hS => sA hS rfl fun hS => sA hS rfl fun hS => sA hS rfl fun hS => qq <| qf <| ql hS rfl Tryd.call10 (jl hG K ([] : List UInt8) (hS.st.part 0 [0, 1] (by kernel_rfl)) (qe hM) (fun XD XA XB XE Xn Xi w hM XC hst => qk hS.ev hst.appF rfl fun hS => ?_))
 replace hS : Ss _ _ _ H [Xn, Xj, Xp] F _ _ := hS
 refine sM hS rfl fun hS => sO hS (ex rfl rfl) rfl fun hS => sO hS (ex rfl rfl) rfl fun hS => sO hS (ex rfl rfl) rfl fun hS => sA hS rfl fun hS => sA hS rfl fun hS => sA hS rfl fun hS => qq <| qf <| sM hS rfl fun hS => ql hS rfl Tryd.call14 (x6 hG K (7 : Int) ([(qb.mk ([104, 101, 97, 100] : List UInt8) ([97, 98, 99, 100, 101] : List UInt8))] : List qb) Xu Xw (Xf.rdF (i := 2) rfl) (Xf.cap (fun _ => rfl) rfl) (hS.st.part 0 [0, 1, 2] (by kernel_rfl)) (qe hM) (fun XF Xl w hM  hst => qk hS.ev hst.appF rfl fun hS => ?_))
 replace hS : Ss _ _ _ H [Xn, Xj, Xp] F _ _ := hS
 refine sM hS rfl fun hS => sO hS (ex rfl rfl) rfl fun hS => sO hS (ex rfl rfl) rfl fun hS => sA hS rfl fun hS => sA hS rfl fun hS => qq <| qf <| sM hS rfl fun hS => sO hS (zL rfl Tryd.runUnderlying9) rfl fun hS => sB hS rfl fun hS => sM hS rfl fun hS => z4 2 true 38 (b := ((Xh.length : Int) == (36 : Int))) (r := (Xk == (0 : Int))) hS rfl rfl rfl rfl rfl rfl rfl (fun hb a w hS K hK => ?_) rfl fun a w hS => ?_
 ·refine qI hS rfl rfl rfl hb (mv rfl) rfl fun a w hS => ?_
  refine qI hS rfl rfl rfl hb (xk rfl rfl rfl) rfl fun a w hS => ?_
  exact qY (hK _ _ (hS.up 2 rfl rfl))
 refine sM hS rfl fun hS => z4 2 true 42 (b := (((Xh.length : Int) == (36 : Int)) && (Xk == (0 : Int)))) (r := (Xo == (65536 : Int))) hS rfl rfl rfl rfl rfl rfl rfl (fun hb a w hS K hK => ?_) rfl fun a w hS => ?_
 ·refine qI hS rfl rfl rfl hb (mv rfl) rfl fun a w hS => ?_
  refine qI hS rfl rfl rfl hb (xk rfl rfl rfl) rfl fun a w hS => ?_
  exact qY (hK _ _ (hS.up 2 rfl rfl))
 refine sM hS rfl fun hS => z4 2 true 46 (b := ((((Xh.length : Int) == (36 : Int)) && (Xk == (0 : Int))) && (Xo == (65536 : Int)))) (r := (Xt == (0 : Int))) hS rfl rfl rfl rfl rfl rfl rfl (fun hb a w hS K hK => ?_) rfl fun a w hS => ?_
 ·refine qI hS rfl rfl rfl hb (mv rfl) rfl fun a w hS => ?_
  refine qI hS rfl rfl rfl hb (xk rfl rfl rfl) rfl fun a w hS => ?_
  exact qY (hK _ _ (hS.up 2 rfl rfl))
 refine sM hS rfl fun hS => xv (fun a w => ∃ (Xe : Bool), Ss 63 [] [(9, .int .i64 Xi), (11, .int .i64 Xl), (54, .bool Xe)] H [] F a w ∧ (qU.j1 K Xi Xl Xe).wp kr kp) 4 (fun Xz Xg => ?_) ?_
 ·refine uf (b := (((((Xh.length : Int) == (36 : Int)) && (Xk == (0 : Int))) && (Xo == (65536 : Int))) && (Xt == (0 : Int)))) hM (fun Xd hM => ?_) (fun Xd hM => ?_)
  ·replace hS := hS.re 49 (v := .bool true) rfl (congrArg Value.bool Xd)
   replace hS := hS.re 50 (v := .bool true) rfl (congrArg Value.bool Xd)
   refine qI hS rfl rfl rfl rfl (mv rfl) rfl fun a w hS => qI hS rfl rfl rfl rfl (mv rfl) rfl fun a w hS => xp hS rfl rfl rfl rfl <| ql hS rfl Tryd.call12 (xA hG K ([(qb.mk ([104, 101, 97, 100] : List UInt8) ([97, 98, 99, 100, 101] : List UInt8))] : List qb) Xy Xu Xw Xv Xx (Xf.rdF (i := 2) rfl) (Xf.cap (fun _ => rfl) rfl) (Xq.rdF (i := 1) rfl) (Xq.cap (fun _ => rfl) rfl) (hS.st.part 0 [0, 1, 2] (by kernel_rfl)) (qe hM) (fun Xs w hM  hst => qk hS.ev hst.appF rfl fun hS => ?_))
   replace hS : Ss _ _ _ H [Xn, Xj, Xp] F _ _ := hS
   refine sO hS (pk rfl rfl rfl) rfl fun hS => qY <| qc ?_
   exact Xg _ _ ⟨Xs, hS.to [] (by kernel_rfl) ⟨rfl, rfl, rfl, trivial⟩, hM⟩
  ·replace hS := hS.re 49 (v := .bool false) rfl (congrArg Value.bool Xd)
   replace hS := hS.re 50 (v := .bool false) rfl (congrArg Value.bool Xd)
   refine jn 3 hS rfl fun a w hS => sO hS (pk rfl rfl rfl) rfl fun hS => qY <| qc ?_
   exact Xg _ _ ⟨false, hS.to [] (by kernel_rfl) ⟨rfl, rfl, rfl, trivial⟩, hM⟩
 ·intro a w hI
  obtain ⟨Xe, hS, hM⟩ := hI
  rw [qU.j1] at hM
  refine sM hS rfl fun hS => z4 2 true 55 (b := Xe) (r := (Xi == (2 : Int))) hS rfl rfl rfl rfl rfl rfl rfl (fun hb a w hS K hK => ?_) rfl fun a w hS => ?_
  ·refine qI hS rfl rfl rfl hb (mv rfl) rfl fun a w hS => ?_
   refine qI hS rfl rfl rfl hb (xk rfl rfl rfl) rfl fun a w hS => ?_
   exact qY (hK _ _ (hS.up 2 rfl rfl))
  refine sM hS rfl fun hS => z4 2 true 59 (b := (Xe && (Xi == (2 : Int)))) (r := (Xl == (1 : Int))) hS rfl rfl rfl rfl rfl rfl rfl (fun hb a w hS K hK => ?_) rfl fun a w hS => ?_
  ·refine qI hS rfl rfl rfl hb (mv rfl) rfl fun a w hS => ?_
   refine qI hS rfl rfl rfl hb (xk rfl rfl rfl) rfl fun a w hS => ?_
   exact qY (hK _ _ (hS.up 2 rfl rfl))
  refine q9 (v := Value.bool) (x0 := ((Xe && (Xi == (2 : Int))) && (Xl == (1 : Int)))) hS (zP rfl) rfl fun Xr a w hz hS => ?_
  have hM := qE hz hM; clear hz
  refine qq <| wp_ret ?_
  exact qG (rs := [0]) hS rfl rfl (hret Xr _ (qz hM) (hS.st.pick [] (by kernel_rfl)))
theorem yz {H : zg} {F : List qi} {w : World} {R : Ending → World → Prop} {kr : Bool → Prop} {kp : Value → Prop} (hG : Gl H) (K : Nat) (Xd : Int)
    (hS : St w H [] F) (hm : (zJ.m K Xd).wp kr kp)
    (hret : ∀ (Xe : Bool) (w : World), kr Xe → St w H [] F → R (.returned (.bool Xe)) w) :
    Calls Tryd.prog 18 ⟨[.int .u32 Xd]⟩ w R := by
 refine enter Tryd.func18 rfl Tryd.ntmps18 rfl hS fun a w hS => ?_
 have hM := hm; clear hm
 rw [zJ.m] at hM
 refine qf <| sA hS rfl fun hS => qq <| qf <| sM hS rfl fun hS => sB hS rfl fun hS => sM hS rfl fun hS => z4 2 false 5 (b := (Xd == (65536 : Int))) (r := (Xd == (1330926671 : Int))) hS rfl rfl rfl rfl rfl rfl rfl (fun hb a w hS K hK => ?_) rfl fun a w hS => ?_
 ·refine qI hS rfl rfl rfl hb (mv rfl) rfl fun a w hS => ?_
  refine qI hS rfl rfl rfl hb (xk rfl rfl rfl) rfl fun a w hS => ?_
  exact qY (hK _ _ (hS.up 2 rfl rfl))
 refine q9 (v := Value.bool) (x0 := ((Xd == (65536 : Int)) || (Xd == (1330926671 : Int)))) hS (zP rfl) rfl fun Xf a w hz hS => ?_
 have hM := qE hz hM; clear hz
 refine qq <| wp_ret ?_
 exact qG (rs := [2]) hS rfl rfl (hret Xf _ (qz hM) (hS.st.pick [] (by kernel_rfl)))
theorem yJ {H : zg} {F : List qi} {w : World} {R : Ending → World → Prop} {kr : Bool → Prop} {kp : Value → Prop} (hG : Gl H) (K : Nat) (Xd : List UInt8)
    (hS : St w H [] F) (hm : (qX.m K Xd).wp kr kp)
    (hret : ∀ (Xh : Bool) (w : World), kr Xh → St w H [] F → R (.returned (.bool Xh)) w) :
    Calls Tryd.prog 35 ⟨[qg Xd]⟩ w R := by
 refine enter Tryd.func35 rfl Tryd.ntmps35 rfl hS fun a w hS => ?_
 have hM := hm; clear hm
 rw [qX.m] at hM
 refine qf <| sA hS rfl fun hS => qq <| wp_seq <| qf <| sA hS rfl fun hS => qq <| xT <| zo (fun Xg a w => ∃ (Xe : Int), Ss 23 [] [(0, qg Xd), (3, .int .i64 Xe)] H [] F a w ∧ (qX.l1 K Xd Xg Xe).wp kr kp) K ?_ ?_ ?_
 ·exact ⟨(0 : Int), hS.to [] (by kernel_rfl) ⟨rfl, rfl, trivial⟩, hM⟩
 ·intro a w hI; obtain ⟨_, _, hM⟩ := hI; exact zj hM
 ·intro Xg a w hI Xn Xi
  obtain ⟨Xe, hS, hM⟩ := hI
  rw [qX.l1] at hM
  refine wp_seq <| qf <| sM hS rfl fun hS => sM hS rfl fun hS => sO hS (zL rfl Tryd.runUnderlying9) rfl fun hS => sB hS rfl fun hS => qq <| qC hS rfl hM (fun Xj hM => ?_) (fun Xj hM => ?_)
  ·refine wp_skip ?_
   refine qc <| wp_seq <| xT <| qf <| sM hS rfl fun hS => sM hS rfl fun hS => ?_
   obtain ⟨Xf, hM⟩ := qD hM
   refine sO hS (uB rfl rfl Tryd.runUnderlying9 Xf) rfl fun hS => sB hS rfl fun hS => sM hS rfl fun hS => z4 4 false 14 (b := (decide (((rd Xd Xe).toNat : Int) < (32 : Int)))) (r := (decide (((rd Xd Xe).toNat : Int) > (126 : Int)))) hS rfl rfl rfl rfl rfl rfl rfl (fun hb a w hS K hK => ?_) rfl fun a w hS => ?_
   ·refine qI hS rfl rfl rfl hb (mv rfl) rfl fun a w hS => ?_
    refine qI hS rfl rfl rfl hb (mv rfl) rfl fun a w hS => qI hS rfl rfl rfl hb (uB rfl rfl Tryd.runUnderlying9 Xf) rfl fun a w hS => qI hS rfl rfl rfl hb (xk rfl rfl rfl) rfl fun a w hS => ?_
    exact qY (hK _ _ (hS.up 4 rfl rfl))
   refine qq <| qC hS rfl hM (fun Xk hM => ?_) (fun Xk hM => ?_)
   ·refine wp_seq ?_
    refine zB <| sA hS rfl fun hS => qq <| wp_ret <| zm (qm (qm (zm (qm ?_))))
    exact qG (rs := [2]) hS rfl rfl (hret false _ (qz hM) (hS.st.pick [] (by kernel_rfl)))
   ·refine wp_skip ?_
    refine zU (qc ?_)
    refine zB <| sM hS rfl fun hS => sB hS rfl fun hS => q9 (v := Value.int .i64) (x0 := (qB (Xe + (1 : Int)))) hS (zP rfl) rfl fun Xl a w hz hS => ?_
    have hM := qE hz hM; clear hz
    refine qY <| qc ?_
    exact Xi _ _ ⟨Xl, hS.to [] (by kernel_rfl) ⟨rfl, rfl, trivial⟩, hM⟩
  ·refine wp_exit ?_
   refine qN (qN (za (qc ?_)))
   refine qf <| sM hS rfl fun hS => sO hS (zL rfl Tryd.runUnderlying9) rfl fun hS => sB hS rfl fun hS => q9 (v := Value.bool) (x0 := ((Xd.length : Int) == (4 : Int))) hS (zP rfl) rfl fun Xm a w hz hS => ?_
   have hM := qE hz hM; clear hz
   refine qq <| wp_ret ?_
   exact qG (rs := [2]) hS rfl rfl (hret Xm _ (qz hM) (hS.st.pick [] (by kernel_rfl)))
theorem yk {H : zg} {F : List qi} {w : World} {R : Ending → World → Prop} {kr : Int → Prop} {kp : Value → Prop} (hG : Gl H) (K : Nat) (Xd : Int)
    (hS : St w H [] F) (hm : (zv.m K Xd).wp kr kp)
    (hret : ∀ (Xe : Int) (w : World), kr Xe → St w H [] F → R (.returned (.int .i64 Xe)) w) :
    Calls Tryd.prog 37 ⟨[.int .i64 Xd]⟩ w R := by
 refine enter Tryd.func37 rfl Tryd.ntmps37 rfl hS fun a w hS => ?_
 have hM := hm; clear hm
 rw [zv.m] at hM
 refine qf <| sA hS rfl fun hS => qq <| qf <| sM hS rfl fun hS => sB hS rfl fun hS => sO hS (quo rfl rfl rfl) rfl fun hS => sB hS rfl fun hS => q9 (v := Value.int .i64) (x0 := (qB ((y9 .i64 (qB (Xd + (3 : Int))) (4 : Int)) * (4 : Int)))) hS (zP rfl) rfl fun Xf a w hz hS => ?_
 have hM := qE hz hM; clear hz
 refine qq <| wp_ret ?_
 exact qG (rs := [2]) hS rfl rfl (hret Xf _ (qz hM) (hS.st.pick [] (by kernel_rfl)))
theorem yI {H : zg} {F : List qi} {w : World} {R : Ending → World → Prop} {kr : Bool → Prop} {kp : Value → Prop} (hG : Gl H) (K : Nat) (Xe : List qb) (Xf : Option Addr) (Xi : Nat) (Xg : x2 H [] F qb.cells Xf Xe) (XC : Xe.length ≤ Xi)
    (hS : St w H [] F) (hm : (qj.m K Xe).wp kr kp)
    (hret : ∀ (Xs : Bool) (w : World), kr Xs → St w H [] F → R (.returned (.bool Xs)) w) :
    Calls Tryd.prog 19 ⟨[.slice Xf Xe.length Xi]⟩ w R := by
 refine enter Tryd.func19 rfl Tryd.ntmps19 rfl hS fun a w hS => ?_
 have hM := hm; clear hm
 rw [qj.m] at hM
 refine qf <| sA hS rfl fun hS => qq <| wp_seq <| qf <| sM hS rfl fun hS => sO hS (z5 rfl Tryd.runUnderlying24) rfl fun hS => sB hS rfl fun hS => sM hS rfl fun hS => z4 3 false 8 (b := (decide ((Xe.length : Int) < (1 : Int)))) (r := (decide ((Xe.length : Int) > (1000 : Int)))) hS rfl rfl rfl rfl rfl rfl rfl (fun hb a w hS K hK => ?_) rfl fun a w hS => ?_
 ·refine qI hS rfl rfl rfl hb (mv rfl) rfl fun a w hS => ?_
  refine qI hS rfl rfl rfl hb (z5 rfl Tryd.runUnderlying24) rfl fun a w hS => qI hS rfl rfl rfl hb (xk rfl rfl rfl) rfl fun a w hS => ?_
  exact qY (hK _ _ (hS.up 3 rfl rfl))
 refine qq <| qC hS rfl hM (fun Xu hM => ?_) (fun Xu hM => ?_)
 ·refine wp_seq ?_
  refine zB <| sA hS rfl fun hS => qq <| wp_ret <| qm ?_
  exact qG (rs := [2]) hS rfl rfl (hret false _ (qz hM) (hS.st.pick [] (by kernel_rfl)))
 ·refine wp_skip ?_
  refine qc <| qf <| sA hS rfl fun hS => qq <| wp_seq <| qf <| sA hS rfl fun hS => qq <| xT <| zo (fun Xq a w => ∃ (Xj : Int) (Xd : Int), Ss 64 [] [(0, .slice Xf Xe.length Xi), (3, .int .i64 Xj), (4, .int .i64 Xd)] H [] F a w ∧ (qj.l1 K Xe Xq Xj Xd).wp kr kp) K ?_ ?_ ?_
  ·exact ⟨(0 : Int), (0 : Int), hS.to [] (by kernel_rfl) ⟨rfl, rfl, rfl, trivial⟩, hM⟩
  ·intro a w hI; obtain ⟨_, _, _, hM⟩ := hI; exact zj hM
  ·intro Xq a w hI XE Xt
   obtain ⟨Xj, Xd, hS, hM⟩ := hI
   rw [qj.l1] at hM
   refine wp_seq <| qf <| sM hS rfl fun hS => sM hS rfl fun hS => sO hS (z5 rfl Tryd.runUnderlying24) rfl fun hS => sB hS rfl fun hS => qq <| qC hS rfl hM (fun Xv hM => ?_) (fun Xv hM => ?_)
   ·refine wp_skip ?_
    refine qc <| wp_seq <| xT <| wp_seq <| zp (fun a w => ∃ (Xr : Bool), Ss 64 [] [(0, .slice Xf Xe.length Xi), (3, .int .i64 Xj), (4, .int .i64 Xd), (52, .bool Xr)] H [] F a w ∧ (qj.j2 K (qj.l1 K Xe Xq) Xe Xj Xd Xr).wp kr kp) (fun XD Xl => ?_) ?_
    ·obtain ⟨Xh, hM⟩ := qD hM
     refine q4 (vals := [some (.slice Xf Xe.length Xi), some (.int .i64 Xd), some (zF Xf (Int.toNat Xd * 2)), some (zF Xf (Int.toNat Xd * 2 + 0)), some (qg ((rd Xe Xd).Tag_)), none, none, none, none, none, none, none, none, none, none, none, none, none, none, none, none, none, none, none, none, none, none, none, none, none, none, none, none, none]) hS xh rfl ?_
     intro l w ho hcl hA hst
     refine xU hA hst ho hcl z6 xi 5 [0, 1, 2, 3, 4] rfl rfl rfl rfl rfl (by exact ⟨nM rfl, nM rfl, nQ rfl (by exact qr (yD rfl rfl Tryd.runUnderlying24 Tryd.sizeOf36 Xg.wk (fun _ => rfl) rfl Xh) rfl), nQ rfl (by exact qr (xl (sz := 2) rfl Xg.wk (fun _ => rfl) rfl Xh Tryd.runUnderlying36 rfl Tryd.sizeOf9 rfl) rfl), nQ rfl (by exact qr (jk 0 rfl Xg.wk (fun _ => rfl) Xh rfl Tryd.isAgg9) rfl), trivial⟩) fun D l a w ho hcl hav hpre hm hE hk hA hst => ?_
     have hS := (Ss.mk hE hst).env2 (e' := [(23, qg ((rd Xe Xd).Tag_))]) ⟨rfl, trivial⟩
     refine qt rfl <| ql hS rfl Tryd.call35 (yJ hG K ((rd Xe Xd).Tag_) (hS.st.part 0 [] (by kernel_rfl)) (qe hM) (fun XA w hM  hst => qk hS.ev hst.appF rfl fun hS => ?_))
     replace hS : Ss _ _ _ H [] F _ _ := hS
     refine qq ?_
     replace hst := hS.st
     refine uf (b := XA) hM (fun Xn hM => ?_) (fun Xn hM => ?_)
     ·subst Xn
      refine uf (b := (decide (Xd > (0 : Int)))) hM (fun Xm hM => ?_) (fun Xm hM => ?_)
      ·obtain ⟨Xk, hM⟩ := qD hM
       refine uf (b := (!Op.bytesLess (rd Xe (qB (Xd - (1 : Int)))).Tag_ (rd Xe Xd).Tag_)) hM (fun Xo hM => ?_) (fun Xo hM => ?_)
       ·obtain ⟨hcl, hmust, hav2, hA⟩ := dn (vals' := [some (.slice Xf Xe.length Xi), some (.int .i64 Xd), some (zF Xf (Int.toNat Xd * 2)), some (zF Xf (Int.toNat Xd * 2 + 0)), some (qg ((rd Xe Xd).Tag_)), some (.bool true), some (.bool false), some (.bool false), some (.int .i64 Xd), some (.bool true), some (.bool true), some (.slice Xf Xe.length Xi), some (.int .i64 Xd), some (.int .i64 (qB (Xd - (1 : Int)))), some (zF Xf (Int.toNat (qB (Xd - (1 : Int))) * 2)), some (zF Xf (Int.toNat (qB (Xd - (1 : Int))) * 2 + 0)), some (qg ((rd Xe (qB (Xd - (1 : Int)))).Tag_)), some (.slice Xf Xe.length Xi), some (.int .i64 Xd), some (zF Xf (Int.toNat Xd * 2)), some (zF Xf (Int.toNat Xd * 2 + 0)), some (qg ((rd Xe Xd).Tag_)), some (.bool true), some (.bool true), some (.bool true), some (.bool true), some (undef), some (undef), some (undef), some (undef), some (undef), some (undef), some (undef), some (.bool true)]) 5 [(4, 5), (3, 4), (2, 3), (0, 2), (1, 2)] hA hcl hav hm hpre hk rfl rfl rfl rfl rfl rfl rfl
        clear hm hav
        refine xo hA hst ho hcl hmust [6, 7, 8, 9, 10, 11, 12, 13, 14, 15, 16, 17, 18, 19, 20, 21, 22, 23, 24, 25, 26, 27, 28, 29, 30, 31, 32, 33] rfl rfl rfl (by exact ⟨nQ rfl (by exact qr (un rfl rfl) rfl), nM rfl, nW rfl rfl rfl rfl rfl rfl rfl rfl (by exact qr (mv rfl) rfl), nW rfl rfl rfl rfl rfl rfl rfl rfl (by exact qr (xk rfl rfl rfl) (congrArg Value.bool Xm)), nW rfl rfl rfl rfl rfl rfl rfl rfl (by exact qr (mv rfl) rfl), nW rfl rfl rfl rfl rfl rfl rfl rfl (by exact qr (mv rfl) rfl), nW rfl rfl rfl rfl rfl rfl rfl rfl (by exact qr (mv rfl) rfl), nW rfl rfl rfl rfl rfl rfl rfl rfl (by exact qr (xk rfl rfl rfl) rfl), nW rfl rfl rfl rfl rfl rfl rfl rfl (by exact qr (yD rfl rfl Tryd.runUnderlying24 Tryd.sizeOf36 Xg.wk (fun _ => rfl) rfl Xk) rfl), nW rfl rfl rfl rfl rfl rfl rfl rfl (by exact qr (xl (sz := 2) rfl Xg.wk (fun _ => rfl) rfl Xk Tryd.runUnderlying36 rfl Tryd.sizeOf9 rfl) rfl), nW rfl rfl rfl rfl rfl rfl rfl rfl (by exact qr (jk 0 rfl Xg.wk (fun _ => rfl) Xk rfl Tryd.isAgg9) rfl), nW rfl rfl rfl rfl rfl rfl rfl rfl (by exact qr (mv rfl) rfl), nW rfl rfl rfl rfl rfl rfl rfl rfl (by exact qr (mv rfl) rfl), nW rfl rfl rfl rfl rfl rfl rfl rfl (by exact qr (yD rfl rfl Tryd.runUnderlying24 Tryd.sizeOf36 Xg.wk (fun _ => rfl) rfl Xh) rfl), nW rfl rfl rfl rfl rfl rfl rfl rfl (by exact qr (xl (sz := 2) rfl Xg.wk (fun _ => rfl) rfl Xh Tryd.runUnderlying36 rfl Tryd.sizeOf9 rfl) rfl), nW rfl rfl rfl rfl rfl rfl rfl rfl (by exact qr (jk 0 rfl Xg.wk (fun _ => rfl) Xh rfl Tryd.isAgg9) rfl), nW rfl rfl rfl rfl rfl rfl rfl rfl (by exact qr (jK rfl rfl rfl) (congrArg Value.bool Xo)), nW rfl rfl rfl rfl rfl rfl rfl rfl (by exact qr (pk rfl rfl rfl) rfl), nQ rfl (by exact qr (pk rfl rfl rfl) rfl), nM rfl, nS rfl rfl rfl rfl rfl rfl rfl rfl rfl, nS rfl rfl rfl rfl rfl rfl rfl rfl rfl, nS rfl rfl rfl rfl rfl rfl rfl rfl rfl, nS rfl rfl rfl rfl rfl rfl rfl rfl rfl, nS rfl rfl rfl rfl rfl rfl rfl rfl rfl, nS rfl rfl rfl rfl rfl rfl rfl rfl rfl, nS rfl rfl rfl rfl rfl rfl rfl rfl rfl, nQ rfl (by exact qr (pk rfl rfl rfl) rfl), trivial⟩) fun a w hS => ?_
        replace hS := hS.env2 (e' := [(0, .slice Xf Xe.length Xi), (3, .int .i64 Xj), (4, .int .i64 Xd), (52, .bool true)]) ⟨rfl, rfl, rfl, rfl, trivial⟩
        refine qc ?_
        exact Xl _ _ ⟨true, hS.to [] (by kernel_rfl) ⟨rfl, rfl, rfl, rfl, trivial⟩, hM⟩
       ·obtain ⟨hcl, hmust, hav2, hA⟩ := dn (vals' := [some (.slice Xf Xe.length Xi), some (.int .i64 Xd), some (zF Xf (Int.toNat Xd * 2)), some (zF Xf (Int.toNat Xd * 2 + 0)), some (qg ((rd Xe Xd).Tag_)), some (.bool true), some (.bool false), some (.bool false), some (.int .i64 Xd), some (.bool true), some (.bool true), some (.slice Xf Xe.length Xi), some (.int .i64 Xd), some (.int .i64 (qB (Xd - (1 : Int)))), some (zF Xf (Int.toNat (qB (Xd - (1 : Int))) * 2)), some (zF Xf (Int.toNat (qB (Xd - (1 : Int))) * 2 + 0)), some (qg ((rd Xe (qB (Xd - (1 : Int)))).Tag_)), some (.slice Xf Xe.length Xi), some (.int .i64 Xd), some (zF Xf (Int.toNat Xd * 2)), some (zF Xf (Int.toNat Xd * 2 + 0)), some (qg ((rd Xe Xd).Tag_)), some (.bool false), some (.bool false), some (.bool false), some (.bool false), some (.slice Xf Xe.length Xi), some (.int .i64 Xd), some (zF Xf (Int.toNat Xd * 2)), some (zF Xf (Int.toNat Xd * 2 + 1)), some (qg ((rd Xe Xd).Data_)), some (.int .i64 (((rd Xe Xd).Data_).length : Int)), some (.bool (decide ((((rd Xe Xd).Data_).length : Int) > (16777216 : Int)))), some (.bool (decide ((((rd Xe Xd).Data_).length : Int) > (16777216 : Int))))]) 5 [(4, 5), (3, 4), (2, 3), (0, 2), (1, 2)] hA hcl hav hm hpre hk rfl rfl rfl rfl rfl rfl rfl
        clear hm hav
        refine xo hA hst ho hcl hmust [6, 7, 8, 9, 10, 11, 12, 13, 14, 15, 16, 17, 18, 19, 20, 21, 22, 23, 24, 25, 26, 27, 28, 29, 30, 31, 32, 33] rfl rfl rfl (by exact ⟨nQ rfl (by exact qr (un rfl rfl) rfl), nM rfl, nW rfl rfl rfl rfl rfl rfl rfl rfl (by exact qr (mv rfl) rfl), nW rfl rfl rfl rfl rfl rfl rfl rfl (by exact qr (xk rfl rfl rfl) (congrArg Value.bool Xm)), nW rfl rfl rfl rfl rfl rfl rfl rfl (by exact qr (mv rfl) rfl), nW rfl rfl rfl rfl rfl rfl rfl rfl (by exact qr (mv rfl) rfl), nW rfl rfl rfl rfl rfl rfl rfl rfl (by exact qr (mv rfl) rfl), nW rfl rfl rfl rfl rfl rfl rfl rfl (by exact qr (xk rfl rfl rfl) rfl), nW rfl rfl rfl rfl rfl rfl rfl rfl (by exact qr (yD rfl rfl Tryd.runUnderlying24 Tryd.sizeOf36 Xg.wk (fun _ => rfl) rfl Xk) rfl), nW rfl rfl rfl rfl rfl rfl rfl rfl (by exact qr (xl (sz := 2) rfl Xg.wk (fun _ => rfl) rfl Xk Tryd.runUnderlying36 rfl Tryd.sizeOf9 rfl) rfl), nW rfl rfl rfl rfl rfl rfl rfl rfl (by exact qr (jk 0 rfl Xg.wk (fun _ => rfl) Xk rfl Tryd.isAgg9) rfl), nW rfl rfl rfl rfl rfl rfl rfl rfl (by exact qr (mv rfl) rfl), nW rfl rfl rfl rfl rfl rfl rfl rfl (by exact qr (mv rfl) rfl), nW rfl rfl rfl rfl rfl rfl rfl rfl (by exact qr (yD rfl rfl Tryd.runUnderlying24 Tryd.sizeOf36 Xg.wk (fun _ => rfl) rfl Xh) rfl), nW rfl rfl rfl rfl rfl rfl rfl rfl (by exact qr (xl (sz := 2) rfl Xg.wk (fun _ => rfl) rfl Xh Tryd.runUnderlying36 rfl Tryd.sizeOf9 rfl) rfl), nW rfl rfl rfl rfl rfl rfl rfl rfl (by exact qr (jk 0 rfl Xg.wk (fun _ => rfl) Xh rfl Tryd.isAgg9) rfl), nW rfl rfl rfl rfl rfl rfl rfl rfl (by exact qr (jK rfl rfl rfl) (congrArg Value.bool Xo)), nW rfl rfl rfl rfl rfl rfl rfl rfl (by exact qr (pk rfl rfl rfl) rfl), nQ rfl (by exact qr (pk rfl rfl rfl) rfl), nM rfl, nW rfl rfl rfl rfl rfl rfl rfl rfl (by exact qr (mv rfl) rfl), nW rfl rfl rfl rfl rfl rfl rfl rfl (by exact qr (mv rfl) rfl), nW rfl rfl rfl rfl rfl rfl rfl rfl (by exact qr (yD rfl rfl Tryd.runUnderlying24 Tryd.sizeOf36 Xg.wk (fun _ => rfl) rfl Xh) rfl), nW rfl rfl rfl rfl rfl rfl rfl rfl (by exact qr (xl (sz := 2) rfl Xg.wk (fun _ => rfl) rfl Xh Tryd.runUnderlying36 rfl Tryd.sizeOf9 rfl) rfl), nW rfl rfl rfl rfl rfl rfl rfl rfl (by exact qr (jk 1 rfl Xg.wk (fun _ => rfl) Xh rfl Tryd.isAgg9) rfl), nW rfl rfl rfl rfl rfl rfl rfl rfl (by exact qr (zL rfl Tryd.runUnderlying9) rfl), nW rfl rfl rfl rfl rfl rfl rfl rfl (by exact qr (xk rfl rfl rfl) rfl), nQ rfl (by exact qr (pk rfl rfl rfl) rfl), trivial⟩) fun a w hS => ?_
        replace hS := hS.env2 (e' := [(0, .slice Xf Xe.length Xi), (3, .int .i64 Xj), (4, .int .i64 Xd), (52, .bool (decide ((((rd Xe Xd).Data_).length : Int) > (16777216 : Int))))]) ⟨rfl, rfl, rfl, rfl, trivial⟩
        refine qc ?_
        exact Xl _ _ ⟨(decide ((((rd Xe Xd).Data_).length : Int) > (16777216 : Int))), hS.to [] (by kernel_rfl) ⟨rfl, rfl, rfl, rfl, trivial⟩, hM⟩
      ·obtain ⟨hcl, hmust, hav2, hA⟩ := dn (vals' := [some (.slice Xf Xe.length Xi), some (.int .i64 Xd), some (zF Xf (Int.toNat Xd * 2)), some (zF Xf (Int.toNat Xd * 2 + 0)), some (qg ((rd Xe Xd).Tag_)), some (.bool true), some (.bool false), some (.bool false), some (.int .i64 Xd), some (.bool false), some (.bool false), some (undef), some (undef), some (undef), some (undef), some (undef), some (undef), some (undef), some (undef), some (undef), some (undef), some (undef), some (undef), some (.bool false), some (.bool false), some (.bool false), some (.slice Xf Xe.length Xi), some (.int .i64 Xd), some (zF Xf (Int.toNat Xd * 2)), some (zF Xf (Int.toNat Xd * 2 + 1)), some (qg ((rd Xe Xd).Data_)), some (.int .i64 (((rd Xe Xd).Data_).length : Int)), some (.bool (decide ((((rd Xe Xd).Data_).length : Int) > (16777216 : Int)))), some (.bool (decide ((((rd Xe Xd).Data_).length : Int) > (16777216 : Int))))]) 5 [(4, 5), (3, 4), (2, 3), (0, 2), (1, 2)] hA hcl hav hm hpre hk rfl rfl rfl rfl rfl rfl rfl
       clear hm hav
       refine xo hA hst ho hcl hmust [6, 7, 8, 9, 10, 11, 12, 13, 14, 15, 16, 17, 18, 19, 20, 21, 22, 23, 24, 25, 26, 27, 28, 29, 30, 31, 32, 33] rfl rfl rfl (by exact ⟨nQ rfl (by exact qr (un rfl rfl) rfl), nM rfl, nW rfl rfl rfl rfl rfl rfl rfl rfl (by exact qr (mv rfl) rfl), nW rfl rfl rfl rfl rfl rfl rfl rfl (by exact qr (xk rfl rfl rfl) (congrArg Value.bool Xm)), nW rfl rfl rfl rfl rfl rfl rfl rfl (by exact qr (mv rfl) rfl), nS rfl rfl rfl rfl rfl rfl rfl rfl rfl, nS rfl rfl rfl rfl rfl rfl rfl rfl rfl, nS rfl rfl rfl rfl rfl rfl rfl rfl rfl, nS rfl rfl rfl rfl rfl rfl rfl rfl rfl, nS rfl rfl rfl rfl rfl rfl rfl rfl rfl, nS rfl rfl rfl rfl rfl rfl rfl rfl rfl, nS rfl rfl rfl rfl rfl rfl rfl rfl rfl, nS rfl rfl rfl rfl rfl rfl rfl rfl rfl, nS rfl rfl rfl rfl rfl rfl rfl rfl rfl, nS rfl rfl rfl rfl rfl rfl rfl rfl rfl, nS rfl rfl rfl rfl rfl rfl rfl rfl rfl, nS rfl rfl rfl rfl rfl rfl rfl rfl rfl, nW rfl rfl rfl rfl rfl rfl rfl rfl (by exact qr (pk rfl rfl rfl) rfl), nQ rfl (by exact qr (pk rfl rfl rfl) rfl), nM rfl, nW rfl rfl rfl rfl rfl rfl rfl rfl (by exact qr (mv rfl) rfl), nW rfl rfl rfl rfl rfl rfl rfl rfl (by exact qr (mv rfl) rfl), nW rfl rfl rfl rfl rfl rfl rfl rfl (by exact qr (yD rfl rfl Tryd.runUnderlying24 Tryd.sizeOf36 Xg.wk (fun _ => rfl) rfl Xh) rfl), nW rfl rfl rfl rfl rfl rfl rfl rfl (by exact qr (xl (sz := 2) rfl Xg.wk (fun _ => rfl) rfl Xh Tryd.runUnderlying36 rfl Tryd.sizeOf9 rfl) rfl), nW rfl rfl rfl rfl rfl rfl rfl rfl (by exact qr (jk 1 rfl Xg.wk (fun _ => rfl) Xh rfl Tryd.isAgg9) rfl), nW rfl rfl rfl rfl rfl rfl rfl rfl (by exact qr (zL rfl Tryd.runUnderlying9) rfl), nW rfl rfl rfl rfl rfl rfl rfl rfl (by exact qr (xk rfl rfl rfl) rfl), nQ rfl (by exact qr (pk rfl rfl rfl) rfl), trivial⟩) fun a w hS => ?_
       replace hS := hS.env2 (e' := [(0, .slice Xf Xe.length Xi), (3, .int .i64 Xj), (4, .int .i64 Xd), (52, .bool (decide ((((rd Xe Xd).Data_).length : Int) > (16777216 : Int))))]) ⟨rfl, rfl, rfl, rfl, trivial⟩
       refine qc ?_
       exact Xl _ _ ⟨(decide ((((rd Xe Xd).Data_).length : Int) > (16777216 : Int))), hS.to [] (by kernel_rfl) ⟨rfl, rfl, rfl, rfl, trivial⟩, hM⟩
     ·subst Xn
      obtain ⟨hcl, hmust, hav2, hA⟩ := dn (vals' := [some (.slice Xf Xe.length Xi), some (.int .i64 Xd), some (zF Xf (Int.toNat Xd * 2)), some (zF Xf (Int.toNat Xd * 2 + 0)), some (qg ((rd Xe Xd).Tag_)), some (.bool false), some (.bool true), some (.bool true), some (undef), some (undef), some (undef), some (undef), some (undef), some (undef), some (undef), some (undef), some (undef), some (undef), some (undef), some (undef), some (undef), some (undef), some (undef), some (undef), some (.bool true), some (.bool true), some (undef), some (undef), some (undef), some (undef), some (undef), some (undef), some (undef), some (.bool true)]) 5 [(4, 5), (3, 4), (2, 3), (0, 2), (1, 2)] hA hcl hav hm hpre hk rfl rfl rfl rfl rfl rfl rfl
      clear hm hav
      refine xo hA hst ho hcl hmust [6, 7, 8, 9, 10, 11, 12, 13, 14, 15, 16, 17, 18, 19, 20, 21, 22, 23, 24, 25, 26, 27, 28, 29, 30, 31, 32, 33] rfl rfl rfl (by exact ⟨nQ rfl (by exact qr (un rfl rfl) rfl), nM rfl, nS rfl rfl rfl rfl rfl rfl rfl rfl rfl, nS rfl rfl rfl rfl rfl rfl rfl rfl rfl, nS rfl rfl rfl rfl rfl rfl rfl rfl rfl, nS rfl rfl rfl rfl rfl rfl rfl rfl rfl, nS rfl rfl rfl rfl rfl rfl rfl rfl rfl, nS rfl rfl rfl rfl rfl rfl rfl rfl rfl, nS rfl rfl rfl rfl rfl rfl rfl rfl rfl, nS rfl rfl rfl rfl rfl rfl rfl rfl rfl, nS rfl rfl rfl rfl rfl rfl rfl rfl rfl, nS rfl rfl rfl rfl rfl rfl rfl rfl rfl, nS rfl rfl rfl rfl rfl rfl rfl rfl rfl, nS rfl rfl rfl rfl rfl rfl rfl rfl rfl, nS rfl rfl rfl rfl rfl rfl rfl rfl rfl, nS rfl rfl rfl rfl rfl rfl rfl rfl rfl, nS rfl rfl rfl rfl rfl rfl rfl rfl rfl, nS rfl rfl rfl rfl rfl rfl rfl rfl rfl, nQ rfl (by exact qr (pk rfl rfl rfl) rfl), nM rfl, nS rfl rfl rfl rfl rfl rfl rfl rfl rfl, nS rfl rfl rfl rfl rfl rfl rfl rfl rfl, nS rfl rfl rfl rfl rfl rfl rfl rfl rfl, nS rfl rfl rfl rfl rfl rfl rfl rfl rfl, nS rfl rfl rfl rfl rfl rfl rfl rfl rfl, nS rfl rfl rfl rfl rfl rfl rfl rfl rfl, nS rfl rfl rfl rfl rfl rfl rfl rfl rfl, nQ rfl (by exact qr (pk rfl rfl rfl) rfl), trivial⟩) fun a w hS => ?_
      replace hS := hS.env2 (e' := [(0, .slice Xf Xe.length Xi), (3, .int .i64 Xj), (4, .int .i64 Xd), (52, .bool true)]) ⟨rfl, rfl, rfl, rfl, trivial⟩
      refine qc ?_
      exact Xl _ _ ⟨true, hS.to [] (by kernel_rfl) ⟨rfl, rfl, rfl, rfl, trivial⟩, hM⟩
    ·intro a w hI
     obtain ⟨Xr, hS, hM⟩ := hI
     rw [qj.j2] at hM
     refine qC hS rfl hM (fun Xw hM => ?_) (fun Xw hM => ?_)
     ·refine wp_seq ?_
      refine zB <| sA hS rfl fun hS => qq <| wp_ret <| qm (zm (qm (qm (zm (qm ?_)))))
      exact qG (rs := [2]) hS rfl rfl (hret false _ (qz hM) (hS.st.pick [] (by kernel_rfl)))
     ·refine wp_skip ?_
      refine qc <| qf <| sM hS rfl fun hS => sM hS rfl fun hS => sM hS rfl fun hS => ?_
      obtain ⟨Xp, hM⟩ := qD hM
      refine sO hS (yD rfl rfl Tryd.runUnderlying24 Tryd.sizeOf36 Xg.wk (fun _ => rfl) rfl Xp) rfl fun hS => sO hS (xl (sz := 2) rfl Xg.wk (fun _ => rfl) rfl Xp Tryd.runUnderlying36 rfl Tryd.sizeOf9 rfl) rfl fun hS => sO hS (jk 1 rfl Xg.wk (fun _ => rfl) Xp rfl Tryd.isAgg9) rfl fun hS => sO hS (zL rfl Tryd.runUnderlying9) rfl fun hS => ql hS rfl Tryd.call37 (yk hG K (((rd Xe Xd).Data_).length : Int) (hS.st.part 0 [] (by kernel_rfl)) (qe hM) (fun XB w hM  hst => qk hS.ev hst.appF rfl fun hS => ?_))
      replace hS : Ss _ _ _ H [] F _ _ := hS
      refine sB hS rfl fun hS => q9 (v := Value.int .i64) (x0 := (qB (Xj + XB))) hS (zP rfl) rfl fun Xy a w hz hS => ?_
      have hM := qE hz hM; clear hz
      refine qq <| qf <| sM hS rfl fun hS => sB hS rfl fun hS => qq <| qC hS rfl hM (fun Xx hM => ?_) (fun Xx hM => ?_)
      ·refine wp_seq ?_
       refine zB <| sA hS rfl fun hS => qq <| wp_ret <| zm (qm (qm (zm (qm ?_))))
       exact qG (rs := [2]) hS rfl rfl (hret false _ (qz hM) (hS.st.pick [] (by kernel_rfl)))
      ·refine wp_skip ?_
       refine zU (qc ?_)
       refine zB <| sM hS rfl fun hS => sB hS rfl fun hS => q9 (v := Value.int .i64) (x0 := (qB (Xd + (1 : Int)))) hS (zP rfl) rfl fun Xz a w hz hS => ?_
       have hM := qE hz hM; clear hz
       refine qY <| qc ?_
       exact Xt _ _ ⟨Xy, Xz, hS.to [] (by kernel_rfl) ⟨rfl, rfl, rfl, trivial⟩, hM⟩
   ·refine wp_exit ?_
    refine qN (qN (za (qc ?_)))
    refine qf <| sA hS rfl fun hS => qq <| wp_ret ?_
    exact qG (rs := [2]) hS rfl rfl (hret true _ (qz hM) (hS.st.pick [] (by kernel_rfl)))
theorem yh {H : zg} {F : List qi} {w : World} {R : Ending → World → Prop} {kr : Bool → Prop} {kp : Value → Prop} (hG : Gl H) (K : Nat) (Xd : Int)
    (hS : St w H [] F) (hm : (zI.m K Xd).wp kr kp)
    (hret : ∀ (Xe : Bool) (w : World), kr Xe → St w H [] F → R (.returned (.bool Xe)) w) :
    Calls Tryd.prog 77 ⟨[.int .i64 Xd]⟩ w R := by
 refine enter Tryd.func77 rfl Tryd.ntmps77 rfl hS fun a w hS => ?_
 have hM := hm; clear hm
 rw [zI.m] at hM
 refine qf <| sA hS rfl fun hS => qq <| qf <| sM hS rfl fun hS => sB hS rfl fun hS => sM hS rfl fun hS => z4 2 false 5 (b := (Xd == (1 : Int))) (r := (Xd == (2 : Int))) hS rfl rfl rfl rfl rfl rfl rfl (fun hb a w hS K hK => ?_) rfl fun a w hS => ?_
 ·refine qI hS rfl rfl rfl hb (mv rfl) rfl fun a w hS => ?_
  refine qI hS rfl rfl rfl hb (xk rfl rfl rfl) rfl fun a w hS => ?_
  exact qY (hK _ _ (hS.up 2 rfl rfl))
 refine sM hS rfl fun hS => z4 2 false 9 (b := ((Xd == (1 : Int)) || (Xd == (2 : Int)))) (r := (Xd == (4 : Int))) hS rfl rfl rfl rfl rfl rfl rfl (fun hb a w hS K hK => ?_) rfl fun a w hS => ?_
 ·refine qI hS rfl rfl rfl hb (mv rfl) rfl fun a w hS => ?_
  refine qI hS rfl rfl rfl hb (xk rfl rfl rfl) rfl fun a w hS => ?_
  exact qY (hK _ _ (hS.up 2 rfl rfl))
 refine sM hS rfl fun hS => z4 2 false 13 (b := (((Xd == (1 : Int)) || (Xd == (2 : Int))) || (Xd == (4 : Int)))) (r := (Xd == (8 : Int))) hS rfl rfl rfl rfl rfl rfl rfl (fun hb a w hS K hK => ?_) rfl fun a w hS => ?_
 ·refine qI hS rfl rfl rfl hb (mv rfl) rfl fun a w hS => ?_
  refine qI hS rfl rfl rfl hb (xk rfl rfl rfl) rfl fun a w hS => ?_
  exact qY (hK _ _ (hS.up 2 rfl rfl))
 refine q9 (v := Value.bool) (x0 := ((((Xd == (1 : Int)) || (Xd == (2 : Int))) || (Xd == (4 : Int))) || (Xd == (8 : Int)))) hS (zP rfl) rfl fun Xf a w hz hS => ?_
 have hM := qE hz hM; clear hz
 refine qq <| wp_ret ?_
 exact qG (rs := [2]) hS rfl rfl (hret Xf _ (qz hM) (hS.st.pick [] (by kernel_rfl)))
theorem xu {H : zg} {F : List qi} {w : World} {R : Ending → World → Prop} {kr : ((List UInt8) × Int) → Prop} {kp : Value → Prop} (hG : Gl H) (K : Nat) (Xo : Int) (Xd : Int) (Xg : Bool)
    (hS : St w H [] F) (hm : (qh.m K Xo Xd Xg).wp kr kp)
    (hret : ∀ (Xx : List UInt8) (Xy : Int) (w : World), kr (Xx, Xy) → St w H [] F → R (.returned (.tuple ⟨[qg Xx, .int .i64 Xy]⟩)) w) :
    Calls Tryd.prog 63 ⟨[.int .u64 Xo, .int .i64 Xd, .bool Xg]⟩ w R := by
 refine enter Tryd.func63 rfl Tryd.ntmps63 rfl hS fun a w hS => ?_
 have hM := hm; clear hm
 rw [qh.m] at hM
 refine qf <| sA hS rfl fun hS => sA hS rfl fun hS => qq <| wp_seq <| qf <| sM hS rfl fun hS => ql hS rfl Tryd.call77 (yh hG K Xd (hS.st.part 0 [] (by kernel_rfl)) (qe hM) (fun XS w hM  hst => qk hS.ev hst.appF rfl fun hS => ?_))
 replace hS : Ss _ _ _ H [] F _ _ := hS
 refine sO hS (un rfl rfl) rfl fun hS => qq <| qC hS rfl hM (fun XE hM => ?_) (fun XE hM => ?_)
 ·refine wp_seq ?_
  refine zB <| sA hS rfl fun hS => sA hS rfl fun hS => qq <| wp_ret <| qm ?_
  exact qG (rs := [6, 7]) hS rfl rfl (hret ([] : List UInt8) (1 : Int) _ (qz hM) (hS.st.pick [] (by kernel_rfl)))
 ·refine wp_skip ?_
  refine qc <| qf <| sM hS rfl fun hS => ?_
  obtain ⟨XI, hM⟩ := qD hM
  refine ZO (g := (ci .u8)) (m := Xd) (0 : Int) hS rfl rfl (by simp) Tryd.runUnderlying39 X.el5 (fun w => ⟨_, Tryd.zeroValue5 w, rfl⟩) (fun _ => rfl) rfl rfl XI rfl fun XK w Xh Xi XL hz XB hS => ?_
  have hM := qE hz hM; clear hz
  refine sA hS rfl fun hS => qq <| zp (fun a w => ∃ (Xp : Int) (Xl : (List Int)) (Xr : qi), Ss 39 [] [(0, .int .u64 Xp), (8, .slice Xh Xl.length Xi)] H [Xr] F a w ∧ (zX 5 (ci .u8) 1 Xh Xl Xi Xr) ∧ (qh.j3 K Xp Xl).wp kr kp) (fun XR XA => ?_) ?_
  ·refine wp_seq ?_
   refine zB <| sA hS rfl fun hS => qq <| xT <| zo (fun Xv a w => ∃ (Xf : Int) (Xe : (List Int)) (Xm : qi) (Xj : Int), Ss 39 [] [(0, .int .u64 Xf), (1, .int .i64 Xd), (2, .bool Xg), (8, .slice Xh Xe.length Xi), (9, .int .i64 Xj)] H [Xm] F a w ∧ (zX 5 (ci .u8) 1 Xh Xe Xi Xm) ∧ (qh.l1 K Xd Xg Xv Xf Xe Xj).wp kr kp) K ?_ ?_ ?_
   ·exact ⟨Xo, XK, XL, (0 : Int), hS.to [0] (by kernel_rfl) ⟨rfl, rfl, rfl, rfl, rfl, trivial⟩, XB, hM⟩
   ·intro a w hI; obtain ⟨_, _, _, _, _, _, hM⟩ := hI; exact zj hM
   ·intro Xv a w hI XQ Xz
    obtain ⟨Xf, Xe, Xm, Xj, hS, Xn, hM⟩ := hI
    rw [qh.l1] at hM
    refine wp_seq <| qf <| sM hS rfl fun hS => sM hS rfl fun hS => sB hS rfl fun hS => qq <| qC hS rfl hM (fun XF hM => ?_) (fun XF hM => ?_)
    ·refine wp_skip ?_
     refine qc <| wp_seq <| xT <| qf <| sM hS rfl fun hS => sA hS rfl fun hS => qq <| zp (fun a w => ∃ (Xk : Int), Ss 39 [] [(0, .int .u64 Xf), (1, .int .i64 Xd), (2, .bool Xg), (8, .slice Xh Xe.length Xi), (9, .int .i64 Xj), (10, .int .i64 Xk)] H [Xm] F a w ∧ (qh.j2 K (qh.l1 K Xd Xg Xv) Xf Xe Xj Xk).wp kr kp) (fun XP Xs => ?_) ?_
     ·refine wp_seq ?_
      refine zB <| sM hS rfl fun hS => qq <| qC hS rfl hM (fun XG hM => ?_) (fun XG hM => ?_)
      ·refine zB ?_
       refine sM hS rfl fun hS => sB hS rfl fun hS => sM hS rfl fun hS => sB hS rfl fun hS => q9 (v := Value.int .i64) (x0 := (qB ((qB (Xd - (1 : Int))) - Xj))) hS (zP rfl) rfl fun Xw a w hz hS => ?_
       have hM := qE hz hM; clear hz
       refine qY <| qc ?_
       exact Xs _ _ ⟨Xw, hS.to [0] (by kernel_rfl) ⟨rfl, rfl, rfl, rfl, rfl, rfl, trivial⟩, hM⟩
      ·refine wp_skip ?_
       refine qc ?_
       exact Xs _ _ ⟨Xj, hS.to [0] (by kernel_rfl) ⟨rfl, rfl, rfl, rfl, rfl, rfl, trivial⟩, hM⟩
     ·intro a w hI
      obtain ⟨Xk, hS, hM⟩ := hI
      rw [qh.j2] at hM
      refine qf <| sM hS rfl fun hS => sM hS rfl fun hS => sM hS rfl fun hS => sO hS (rem rfl rfl rfl) rfl fun hS => sO hS (yC rfl Tryd.runUnderlying55 Tryd.runUnderlying5) rfl fun hS => ?_
      obtain ⟨Xt, hM⟩ := qD hM
      refine sO hS (yD rfl rfl Tryd.runUnderlying39 Tryd.sizeOf5 (Xn.rd (i := 0) rfl) (fun _ => rfl) rfl Xt) rfl fun hS => ZR (i := Xk) (sz := 1) 0 0 ((wr .u8 (ja Xf (256 : Int)))) hS rfl rfl Xn rfl Tryd.sizeOf5 (vc (wr .u8 (ja Xf (256 : Int)))) (fun _ => rfl) Xt rfl rfl fun Xq w XM hz Xu XC hS => ?_
      have hM := qE hz hM; clear hz
      replace hS := hS.re 8 (u := .slice Xh Xe.length Xi) (v := .slice Xh Xq.length Xi) rfl (by rw [Xu])
      replace hS := hS.re 27 (u := .slice Xh Xe.length Xi) (v := .slice Xh Xq.length Xi) rfl (by rw [Xu])
      refine qq <| zB <| sM hS rfl fun hS => sO hS (quo rfl rfl rfl) rfl fun hS => q9 (v := Value.int .u64) (x0 := (y9 .u64 Xf (256 : Int))) hS (zP rfl) rfl fun XJ a w hz hS => ?_
      have hM := qE hz hM; clear hz
      refine qY <| zU (qc ?_)
      refine zB <| sM hS rfl fun hS => sB hS rfl fun hS => q9 (v := Value.int .i64) (x0 := (qB (Xj + (1 : Int)))) hS (zP rfl) rfl fun XN a w hz hS => ?_
      have hM := qE hz hM; clear hz
      refine qY <| qc ?_
      exact Xz _ _ ⟨XJ, Xq, XM, XN, hS.to [0] (by kernel_rfl) ⟨rfl, rfl, rfl, rfl, rfl, trivial⟩, XC, hM⟩
    ·refine wp_exit ?_
     refine qN (qN (za (qc ?_)))
     exact XA _ _ ⟨Xf, Xe, Xm, hS.to [0] (by kernel_rfl) ⟨rfl, rfl, trivial⟩, Xn, hM⟩
  ·intro a w hI
   obtain ⟨Xp, Xl, Xr, hS, XD, hM⟩ := hI
   rw [qh.j3] at hM
   refine wp_seq <| qf <| sM hS rfl fun hS => sB hS rfl fun hS => qq <| qC hS rfl hM (fun XH hM => ?_) (fun XH hM => ?_)
   ·refine wp_seq ?_
    refine zB <| sA hS rfl fun hS => sA hS rfl fun hS => qq <| wp_ret <| qm ?_
    exact qG (rs := [6, 7]) hS rfl rfl (hret ([] : List UInt8) (10 : Int) _ (qz hM) (hS.st.pick [] (by kernel_rfl)))
   ·refine wp_skip ?_
    refine qc <| qf <| sM hS rfl fun hS => sO hS (Zw rfl Tryd.runUnderlying39 Tryd.runUnderlying5 Tryd.runUnderlying9 (XD.rd (i := 0) rfl)) rfl fun hS => q9 (v := qg) (x0 := (Xl.map jt)) hS (zP rfl) rfl fun XO a w hz hS => ?_
    have hM := qE hz hM; clear hz
    refine sA hS rfl fun hS => qq <| wp_ret ?_
    exact qG (rs := [6, 7]) hS rfl rfl (hret XO (0 : Int) _ (qz hM) (hS.st.pick [] (by kernel_rfl)))
theorem zR {H : zg} {F : List qi} {w : World} {R : Ending → World → Prop} {kr : (List UInt8) → Prop} {kp : Value → Prop} (hG : Gl H) (K : Nat) (Xd : Int)
    (hS : St w H [] F) (hm : (zl.m K Xd).wp kr kp)
    (hret : ∀ (Xe : List UInt8) (w : World), kr Xe → St w H [] F → R (.returned (qg Xe)) w) :
    Calls Tryd.prog 44 ⟨[.int .i64 Xd]⟩ w R := by
 refine enter Tryd.func44 rfl Tryd.ntmps44 rfl hS fun a w hS => ?_
 have hM := hm; clear hm
 rw [zl.m] at hM
 refine qf <| sA hS rfl fun hS => qq <| qf <| sM hS rfl fun hS => sO hS (yC rfl Tryd.runUnderlying3 Tryd.runUnderlying55) rfl fun hS => ql hS rfl Tryd.call63 (xu hG K (wr .u64 Xd) (4 : Int) true (hS.st.part 0 [] (by kernel_rfl)) (qe hM) (fun Xf Xg w hM  hst => qk hS.ev hst.appF rfl fun hS => ?_))
 replace hS : Ss _ _ _ H [] F _ _ := hS
 refine sM hS rfl fun hS => sO hS (ex rfl rfl) rfl fun hS => sO hS (ex rfl rfl) rfl fun hS => sA hS rfl fun hS => sA hS rfl fun hS => qq <| qf <| sM hS rfl fun hS => sA hS rfl fun hS => qq <| wp_ret ?_
 exact qG (rs := [2]) hS rfl rfl (hret Xf _ (qz hM) (hS.st.pick [] (by kernel_rfl)))
theorem zQ {H : zg} {F : List qi} {w : World} {R : Ending → World → Prop} {kr : (List UInt8) → Prop} {kp : Value → Prop} (hG : Gl H) (K : Nat) (Xd : Int)
    (hS : St w H [] F) (hm : (zk.m K Xd).wp kr kp)
    (hret : ∀ (Xe : List UInt8) (w : World), kr Xe → St w H [] F → R (.returned (qg Xe)) w) :
    Calls Tryd.prog 45 ⟨[.int .i64 Xd]⟩ w R := by
 refine enter Tryd.func45 rfl Tryd.ntmps45 rfl hS fun a w hS => ?_
 have hM := hm; clear hm
 rw [zk.m] at hM
 refine qf <| sA hS rfl fun hS => qq <| qf <| sM hS rfl fun hS => sO hS (yC rfl Tryd.runUnderlying3 Tryd.runUnderlying55) rfl fun hS => ql hS rfl Tryd.call63 (xu hG K (wr .u64 Xd) (2 : Int) true (hS.st.part 0 [] (by kernel_rfl)) (qe hM) (fun Xf Xg w hM  hst => qk hS.ev hst.appF rfl fun hS => ?_))
 replace hS : Ss _ _ _ H [] F _ _ := hS
 refine sM hS rfl fun hS => sO hS (ex rfl rfl) rfl fun hS => sO hS (ex rfl rfl) rfl fun hS => sA hS rfl fun hS => sA hS rfl fun hS => qq <| qf <| sM hS rfl fun hS => sA hS rfl fun hS => qq <| wp_ret ?_
 exact qG (rs := [2]) hS rfl rfl (hret Xf _ (qz hM) (hS.st.pick [] (by kernel_rfl)))
theorem yy {H : zg} {F : List qi} {w : World} {R : Ending → World → Prop} {kr : (List UInt8) → Prop} {kp : Value → Prop} (hG : Gl H) (K : Nat) (Xd : Int) (Xe : Int)
    (hS : St w H [] F) (hm : (qA.m K Xd Xe).wp kr kp)
    (hret : ∀ (Xk : List UInt8) (w : World), kr Xk → St w H [] F → R (.returned (qg Xk)) w) :
    Calls Tryd.prog 21 ⟨[.int .u32 Xd, .int .i64 Xe]⟩ w R := by
 refine enter Tryd.func21 rfl Tryd.ntmps21 rfl hS fun a w hS => ?_
 have hM := hm; clear hm
 rw [qA.m] at hM
 refine qf <| sA hS rfl fun hS => qq <| qf <| sA hS rfl fun hS => qq <| qf <| sA hS rfl fun hS => qq <| zp (fun a w => ∃ (Xi : Int) (Xg : Int), Ss 34 [] [(0, .int .u32 Xd), (1, .int .i64 Xe), (5, .int .i64 Xi), (6, .int .i64 Xg)] H [] F a w ∧ (qA.j2 K Xd Xe Xi Xg).wp kr kp) (fun XB Xn => ?_) ?_
 ·refine xT ?_
  refine zo (fun Xj a w => ∃ (Xh : Int) (Xf : Int), Ss 34 [] [(0, .int .u32 Xd), (1, .int .i64 Xe), (5, .int .i64 Xh), (6, .int .i64 Xf)] H [] F a w ∧ (qA.l1 K Xd Xe Xj Xh Xf).wp kr kp) K ?_ ?_ ?_
  ·exact ⟨(1 : Int), (0 : Int), hS.to [] (by kernel_rfl) ⟨rfl, rfl, rfl, rfl, trivial⟩, hM⟩
  ·intro a w hI; obtain ⟨_, _, _, hM⟩ := hI; exact zj hM
  ·intro Xj a w hI XA Xm
   obtain ⟨Xh, Xf, hS, hM⟩ := hI
   rw [qA.l1] at hM
   refine wp_seq <| qf <| sM hS rfl fun hS => sB hS rfl fun hS => sM hS rfl fun hS => sB hS rfl fun hS => qq <| qC hS rfl hM (fun Xo hM => ?_) (fun Xo hM => ?_)
   ·refine wp_skip ?_
    refine qc <| xT <| qf <| sM hS rfl fun hS => sB hS rfl fun hS => q9 (v := Value.int .i64) (x0 := (qB ((2 : Int) * Xh))) hS (zP rfl) rfl fun Xt a w hz hS => ?_
    have hM := qE hz hM; clear hz
    refine qq <| zB <| sM hS rfl fun hS => sB hS rfl fun hS => q9 (v := Value.int .i64) (x0 := (qB (Xf + (1 : Int)))) hS (zP rfl) rfl fun Xl a w hz hS => ?_
    have hM := qE hz hM; clear hz
    refine qY <| zU (qc ?_)
    exact Xm _ _ ⟨Xt, Xl, hS.to [] (by kernel_rfl) ⟨rfl, rfl, rfl, rfl, trivial⟩, hM⟩
   ·refine wp_exit ?_
    refine qN (qN (za (qc ?_)))
    exact Xn _ _ ⟨Xh, Xf, hS.to [] (by kernel_rfl) ⟨rfl, rfl, rfl, rfl, trivial⟩, hM⟩
 ·intro a w hI
  obtain ⟨Xi, Xg, hS, hM⟩ := hI
  rw [qA.j2] at hM
  refine qf <| sM hS rfl fun hS => sO hS (yC rfl Tryd.runUnderlying23 Tryd.runUnderlying3) rfl fun hS => ql hS rfl Tryd.call44 (zR hG K (wr .i64 Xd) (hS.st.part 0 [] (by kernel_rfl)) (qe hM) (fun Xv w hM  hst => qk hS.ev hst.appF rfl fun hS => ?_))
  replace hS : Ss _ _ _ H [] F _ _ := hS
  refine sM hS rfl fun hS => ql hS rfl Tryd.call45 (zQ hG K Xe (hS.st.part 0 [] (by kernel_rfl)) (qe hM) (fun Xw w hM  hst => qk hS.ev hst.appF rfl fun hS => ?_))
  replace hS : Ss _ _ _ H [] F _ _ := hS
  obtain ⟨Xp, hM⟩ := qD hM
  refine sO hS (jv rfl rfl Xp) rfl fun hS => sM hS rfl fun hS => sB hS rfl fun hS => ql hS rfl Tryd.call45 (zQ hG K (qB ((16 : Int) * Xi)) (hS.st.part 0 [] (by kernel_rfl)) (qe hM) (fun Xx w hM  hst => qk hS.ev hst.appF rfl fun hS => ?_))
  replace hS : Ss _ _ _ H [] F _ _ := hS
  obtain ⟨Xq, hM⟩ := qD hM
  refine sO hS (jv rfl rfl Xq) rfl fun hS => sM hS rfl fun hS => ql hS rfl Tryd.call45 (zQ hG K Xg (hS.st.part 0 [] (by kernel_rfl)) (qe hM) (fun Xy w hM  hst => qk hS.ev hst.appF rfl fun hS => ?_))
  replace hS : Ss _ _ _ H [] F _ _ := hS
  obtain ⟨Xr, hM⟩ := qD hM
  refine sO hS (jv rfl rfl Xr) rfl fun hS => sM hS rfl fun hS => sM hS rfl fun hS => sB hS rfl fun hS => sB hS rfl fun hS => ql hS rfl Tryd.call45 (zQ hG K (qB ((16 : Int) * (qB (Xe - Xi)))) (hS.st.part 0 [] (by kernel_rfl)) (qe hM) (fun Xz w hM  hst => qk hS.ev hst.appF rfl fun hS => ?_))
  replace hS : Ss _ _ _ H [] F _ _ := hS
  obtain ⟨Xs, hM⟩ := qD hM
  refine sO hS (jv rfl rfl Xs) rfl fun hS => q9 (v := qg) (x0 := ((((Xv ++ Xw) ++ Xx) ++ Xy) ++ Xz)) hS (zP rfl) rfl fun Xu a w hz hS => ?_
  have hM := qE hz hM; clear hz
  refine qq <| wp_ret ?_
  exact qG (rs := [4]) hS rfl rfl (hret Xu _ (qz hM) (hS.st.pick [] (by kernel_rfl)))
theorem yi {H : zg} {F : List qi} {w : World} {R : Ending → World → Prop} {kr : Int → Prop} {kp : Value → Prop} (hG : Gl H) (K : Nat) (Xg : List UInt8)
    (hS : St w H [] F) (hm : (qs.m K Xg).wp kr kp)
    (hret : ∀ (Xk : Int) (w : World), kr Xk → St w H [] F → R (.returned (.int .u32 Xk)) w) :
    Calls Tryd.prog 17 ⟨[qg Xg]⟩ w R := by
 refine enter Tryd.func17 rfl Tryd.ntmps17 rfl hS fun a w hS => ?_
 have hM := hm; clear hm
 rw [qs.m] at hM
 refine qf <| sA hS rfl fun hS => qq <| qf <| sA hS rfl fun hS => qq <| wp_seq <| qf <| sA hS rfl fun hS => qq <| xT <| zo (fun Xi a w => ∃ (Xd : Int) (Xe : Int), Ss 29 [] [(0, qg Xg), (3, .int .u32 Xd), (4, .int .i64 Xe)] H [] F a w ∧ (qs.l1 K Xg Xi Xd Xe).wp kr kp) K ?_ ?_ ?_
 ·exact ⟨(0 : Int), (0 : Int), hS.to [] (by kernel_rfl) ⟨rfl, rfl, rfl, trivial⟩, hM⟩
 ·intro a w hI; obtain ⟨_, _, _, hM⟩ := hI; exact zj hM
 ·intro Xi a w hI Xx Xo
  obtain ⟨Xd, Xe, hS, hM⟩ := hI
  rw [qs.l1] at hM
  refine wp_seq <| qf <| sM hS rfl fun hS => sM hS rfl fun hS => sO hS (zL rfl Tryd.runUnderlying9) rfl fun hS => sB hS rfl fun hS => qq <| qC hS rfl hM (fun Xp hM => ?_) (fun Xp hM => ?_)
  ·refine wp_skip ?_
   refine qc <| wp_seq <| xT <| qf <| sM hS rfl fun hS => sM hS rfl fun hS => ?_
   obtain ⟨Xr, hM⟩ := qD hM
   refine sO hS (uB rfl rfl Tryd.runUnderlying9 Xr) rfl fun hS => sO hS (yC rfl Tryd.runUnderlying5 Tryd.runUnderlying23) rfl fun hS => q9 (v := Value.int .u32) (x0 := (wr .u32 ((rd Xg Xe).toNat : Int))) hS (zP rfl) rfl fun Xl a w hz hS => ?_
   have hM := qE hz hM; clear hz
   refine qq <| wp_seq <| qf <| sM hS rfl fun hS => sO hS (rem rfl rfl rfl) rfl fun hS => q9 (v := Value.int .i64) (x0 := (ja Xe (4 : Int))) hS (zP rfl) rfl fun Xs a w hz hS => ?_
   have hM := qE hz hM; clear hz
   refine qq <| xT <| zo (fun Xj a w => ∃ (Xf : Int) (Xh : Int), Ss 29 [] [(0, qg Xg), (3, .int .u32 Xd), (4, .int .i64 Xe), (5, .int .u32 Xf), (6, .int .i64 Xh)] H [] F a w ∧ (qs.l2 K (qs.l1 K Xg Xi) Xd Xe Xj Xf Xh).wp kr kp) K ?_ ?_ ?_
   ·exact ⟨Xl, Xs, hS.to [] (by kernel_rfl) ⟨rfl, rfl, rfl, rfl, rfl, trivial⟩, hM⟩
   ·intro a w hI; obtain ⟨_, _, _, hM⟩ := hI; exact zj hM
   ·intro Xj a w hI Xw Xn
    obtain ⟨Xf, Xh, hS, hM⟩ := hI
    rw [qs.l2] at hM
    refine wp_seq <| qf <| sM hS rfl fun hS => sB hS rfl fun hS => qq <| qC hS rfl hM (fun Xq hM => ?_) (fun Xq hM => ?_)
    ·refine wp_skip ?_
     refine qc <| wp_seq <| xT <| zB <| sM hS rfl fun hS => sB hS rfl fun hS => q9 (v := Value.int .u32) (x0 := (wr .u32 (Xf * (256 : Int)))) hS (zP rfl) rfl fun Xm a w hz hS => ?_
     have hM := qE hz hM; clear hz
     refine qY <| zU (qc ?_)
     refine zB <| sM hS rfl fun hS => sB hS rfl fun hS => q9 (v := Value.int .i64) (x0 := (qB (Xh + (1 : Int)))) hS (zP rfl) rfl fun Xt a w hz hS => ?_
     have hM := qE hz hM; clear hz
     refine qY <| qc ?_
     exact Xn _ _ ⟨Xm, Xt, hS.to [] (by kernel_rfl) ⟨rfl, rfl, rfl, rfl, rfl, trivial⟩, hM⟩
    ·refine wp_exit ?_
     refine qN (qN (za (qc ?_)))
     refine zB <| sM hS rfl fun hS => sM hS rfl fun hS => sB hS rfl fun hS => q9 (v := Value.int .u32) (x0 := (wr .u32 (Xd + Xf))) hS (zP rfl) rfl fun Xu a w hz hS => ?_
     have hM := qE hz hM; clear hz
     refine qY <| zU (qc ?_)
     refine zB <| sM hS rfl fun hS => sB hS rfl fun hS => q9 (v := Value.int .i64) (x0 := (qB (Xe + (1 : Int)))) hS (zP rfl) rfl fun Xv a w hz hS => ?_
     have hM := qE hz hM; clear hz
     refine qY <| qc ?_
     exact Xo _ _ ⟨Xu, Xv, hS.to [] (by kernel_rfl) ⟨rfl, rfl, rfl, trivial⟩, hM⟩
  ·refine wp_exit ?_
   refine qN (qN (za (qc ?_)))
   refine qf <| sM hS rfl fun hS => sA hS rfl fun hS => qq <| wp_ret ?_
   exact qG (rs := [2]) hS rfl rfl (hret Xd _ (qz hM) (hS.st.pick [] (by kernel_rfl)))
theorem yj {H : zg} {F : List qi} {w : World} {R : Ending → World → Prop} {kr : ((List UInt8) × Int) → Prop} {kp : Value → Prop} (hG : Gl H) (K : Nat) (Xn : Int) (Xe : List qb) (Xf : Option Addr) (Xk : Nat) (Xh : x2 H [] F qb.cells Xf Xe) (Ye : Xe.length ≤ Xk)
    (hS : St w H [] F) (hm : (qd.m K Xn Xe).wp kr kp)
    (hret : ∀ (XX : List UInt8) (XY : Int) (w : World), kr (XX, XY) → St w H [] F → R (.returned (.tuple ⟨[qg XX, .int .i64 XY]⟩)) w) :
    Calls Tryd.prog 15 ⟨[.int .u32 Xn, .slice Xf Xe.length Xk]⟩ w R := by
 refine enter Tryd.func15 rfl Tryd.ntmps15 rfl hS fun a w hS => ?_
 have hM := hm; clear hm
 rw [qd.m] at hM
 refine qf <| sA hS rfl fun hS => sA hS rfl fun hS => qq <| wp_seq <| qf <| sM hS rfl fun hS => ql hS rfl Tryd.call18 (yz hG K Xn (hS.st.part 0 [] (by kernel_rfl)) (qe hM) (fun YB w hM  hst => qk hS.ev hst.appF rfl fun hS => ?_))
 replace hS : Ss _ _ _ H [] F _ _ := hS
 refine sO hS (un rfl rfl) rfl fun hS => sM hS rfl fun hS => xv (fun a w => ∃ (XU : Bool), Ss 81 [] [(0, .int .u32 Xn), (1, .slice Xf Xe.length Xk), (17, .bool XU)] H [] F a w ∧ (qd.j1 K Xn Xe XU).wp kr kp) 4 (fun YF XO => ?_) ?_
 ·refine uf (b := (!YB)) hM (fun XA hM => ?_) (fun XA hM => ?_)
  ·replace hS := hS.re 12 (v := .bool true) rfl (congrArg Value.bool XA)
   replace hS := hS.re 13 (v := .bool true) rfl (congrArg Value.bool XA)
   refine jn 3 hS rfl fun a w hS => sO hS (pk rfl rfl rfl) rfl fun hS => qY <| qc ?_
   exact XO _ _ ⟨true, hS.to [] (by kernel_rfl) ⟨rfl, rfl, rfl, trivial⟩, hM⟩
  ·replace hS := hS.re 12 (v := .bool false) rfl (congrArg Value.bool XA)
   replace hS := hS.re 13 (v := .bool false) rfl (congrArg Value.bool XA)
   refine qI hS rfl rfl rfl rfl (mv rfl) rfl fun a w hS => xp hS rfl rfl rfl rfl <| ql hS rfl Tryd.call19 (yI hG K Xe Xf Xk (Xh.app _) Ye (hS.st.part 0 [] (by kernel_rfl)) (qe hM) (fun YC w hM  hst => qk hS.ev hst.appF rfl fun hS => ?_))
   replace hS : Ss _ _ _ H [] F _ _ := hS
   refine qI hS rfl rfl rfl rfl (un rfl rfl) rfl fun a w hS => sO hS (pk rfl rfl rfl) rfl fun hS => qY <| qc ?_
   exact XO _ _ ⟨(!YC), hS.to [] (by kernel_rfl) ⟨rfl, rfl, rfl, trivial⟩, hM⟩
 ·intro a w hI
  obtain ⟨XU, hS, hM⟩ := hI
  rw [qd.j1] at hM
  refine qq <| qC hS rfl hM (fun Yb hM => ?_) (fun Yb hM => ?_)
  ·refine wp_seq ?_
   refine zB <| sA hS rfl fun hS => sA hS rfl fun hS => qq <| wp_ret <| qm ?_
   exact qG (rs := [4, 5]) hS rfl rfl (hret ([] : List UInt8) (1 : Int) _ (qz hM) (hS.st.pick [] (by kernel_rfl)))
  ·refine wp_skip ?_
   refine qc <| qf <| sM hS rfl fun hS => sM hS rfl fun hS => sO hS (z5 rfl Tryd.runUnderlying24) rfl fun hS => ql hS rfl Tryd.call21 (yy hG K Xn (Xe.length : Int) (hS.st.part 0 [] (by kernel_rfl)) (qe hM) (fun YN w hM  hst => qk hS.ev hst.appF rfl fun hS => ?_))
   replace hS : Ss _ _ _ H [] F _ _ := hS
   obtain ⟨Yf, hM⟩ := qD hM
   refine ZL hS rfl Tryd.underlying9 Tryd.underlying39 Tryd.underlying5 Yf rfl fun Yl w Yp Ys Yv hz X2 hS => ?_
   have hM := qE hz hM; clear hz
   refine sA hS rfl fun hS => qq <| qf <| sA hS rfl fun hS => ?_
   obtain ⟨Yw, X3, hS⟩ := hS.nilV 5 (ci .u8) 1
   refine qq <| qf <| sM hS rfl fun hS => sO hS (z5 rfl Tryd.runUnderlying24) rfl fun hS => sB hS rfl fun hS => sB hS rfl fun hS => q9 (v := Value.int .i64) (x0 := (qB ((12 : Int) + (qB ((16 : Int) * (Xe.length : Int)))))) hS (zP rfl) rfl fun Xg a w hz hS => ?_
   have hM := qE hz hM; clear hz
   refine qq <| zp (fun a w => ∃ (XI : Option Addr) (XK : Nat) (Xt : (List Int)) (XM : qi) (XJ : Option Addr) (XL : Nat) (Xz : (List Int)) (XN : qi), Ss 81 [] [(6, .slice XI Xt.length XK), (7, .slice XJ Xz.length XL)] H [XM, XN] F a w ∧ (zX 5 (ci .u8) 1 XI Xt XK XM) ∧ (zX 5 (ci .u8) 1 XJ Xz XL XN) ∧ (qd.j4 K Xt Xz).wp kr kp) (fun YI X1 => ?_) ?_
   ·refine wp_seq ?_
    refine zB <| sA hS rfl fun hS => qq <| xT <| zo (fun XT a w => ∃ (Xp : Option Addr) (Xr : Nat) (Xl : (List Int)) (Xw : qi) (Xq : Option Addr) (Xs : Nat) (Xj : (List Int)) (Xx : qi) (Xd : Int), Ss 81 [] [(1, .slice Xf Xe.length Xk), (6, .slice Xp Xl.length Xr), (7, .slice Xq Xj.length Xs), (8, .int .i64 Xg), (9, .int .i64 Xd)] H [Xw, Xx] F a w ∧ (zX 5 (ci .u8) 1 Xp Xl Xr Xw) ∧ (zX 5 (ci .u8) 1 Xq Xj Xs Xx) ∧ (qd.l2 K Xe Xg XT Xl Xj Xd).wp kr kp) K ?_ ?_ ?_
    ·exact ⟨Yp, Ys, Yl, Yv, none, 0, ([] : List Int), Yw, (0 : Int), hS.to [1, 0] (by kernel_rfl) ⟨rfl, rfl, rfl, rfl, rfl, trivial⟩, X2, X3, hM⟩
    ·intro a w hI; obtain ⟨_, _, _, _, _, _, _, _, _, _, _, _, hM⟩ := hI; exact zj hM
    ·intro XT a w hI YH X0
     obtain ⟨Xp, Xr, Xl, Xw, Xq, Xs, Xj, Xx, Xd, hS, XP, XQ, hM⟩ := hI
     rw [qd.l2] at hM
     refine wp_seq <| qf <| sM hS rfl fun hS => sM hS rfl fun hS => sO hS (z5 rfl Tryd.runUnderlying24) rfl fun hS => sB hS rfl fun hS => qq <| qC hS rfl hM (fun Yc hM => ?_) (fun Yc hM => ?_)
     ·refine wp_skip ?_
      refine qc <| wp_seq <| xT <| wp_seq ?_
      obtain ⟨Xi, hM⟩ := qD hM
      refine q4 (vals := [some (.slice Xp Xl.length Xr), some (.slice Xf Xe.length Xk), some (.int .i64 Xd), some (zF Xf (Int.toNat Xd * 2)), some (zF Xf (Int.toNat Xd * 2 + 0)), some (qg ((rd Xe Xd).Tag_)), some (.slice Xf Xe.length Xk), some (.int .i64 Xd), some (zF Xf (Int.toNat Xd * 2)), some (zF Xf (Int.toNat Xd * 2 + 1)), some (qg ((rd Xe Xd).Data_)), none, none, none, none, some (.int .i64 Xg), some (.slice Xq Xj.length Xs), some (.int .i64 (Xj.length : Int)), some (.int .i64 (qB (Xg + (Xj.length : Int)))), none, none, some (.slice Xf Xe.length Xk), some (.int .i64 Xd), some (zF Xf (Int.toNat Xd * 2)), some (zF Xf (Int.toNat Xd * 2 + 1)), some (qg ((rd Xe Xd).Data_)), some (.int .i64 (((rd Xe Xd).Data_).length : Int)), none, none, none, none]) hS xh rfl ?_
      intro l w ho hcl hA hst
      refine xU hA hst ho hcl z6 xi 11 [0, 1, 2, 3, 4, 5, 6, 7, 8, 9, 10, 15, 16, 17, 18, 21, 22, 23, 24, 25, 26] rfl rfl rfl rfl rfl (by exact ⟨nM rfl, nM rfl, nM rfl, nQ rfl (by exact qr (yD rfl rfl Tryd.runUnderlying24 Tryd.sizeOf36 Xh.wk (fun _ => rfl) rfl Xi) rfl), nQ rfl (by exact qr (xl (sz := 2) rfl Xh.wk (fun _ => rfl) rfl Xi Tryd.runUnderlying36 rfl Tryd.sizeOf9 rfl) rfl), nQ rfl (by exact qr (jk 0 rfl Xh.wk (fun _ => rfl) Xi rfl Tryd.isAgg9) rfl), nM rfl, nM rfl, nQ rfl (by exact qr (yD rfl rfl Tryd.runUnderlying24 Tryd.sizeOf36 Xh.wk (fun _ => rfl) rfl Xi) rfl), nQ rfl (by exact qr (xl (sz := 2) rfl Xh.wk (fun _ => rfl) rfl Xi Tryd.runUnderlying36 rfl Tryd.sizeOf9 rfl) rfl), nQ rfl (by exact qr (jk 1 rfl Xh.wk (fun _ => rfl) Xi rfl Tryd.isAgg9) rfl), nM rfl, nM rfl, nQ rfl (by exact qr (z5 rfl Tryd.runUnderlying39) rfl), nB rfl, nM rfl, nM rfl, nQ rfl (by exact qr (yD rfl rfl Tryd.runUnderlying24 Tryd.sizeOf36 Xh.wk (fun _ => rfl) rfl Xi) rfl), nQ rfl (by exact qr (xl (sz := 2) rfl Xh.wk (fun _ => rfl) rfl Xi Tryd.runUnderlying36 rfl Tryd.sizeOf9 rfl) rfl), nQ rfl (by exact qr (jk 1 rfl Xh.wk (fun _ => rfl) Xi rfl Tryd.isAgg9) rfl), nQ rfl (by exact qr (zL rfl Tryd.runUnderlying9) rfl), trivial⟩) fun D l a w ho hcl hav hpre hm hE hk hA hst => ?_
      have hS := (Ss.mk hE hst).env2 (e' := [(43, qg ((rd Xe Xd).Data_))]) ⟨rfl, trivial⟩
      refine qt rfl <| ql hS rfl Tryd.call17 (yi hG K ((rd Xe Xd).Data_) (hS.st.part 0 [0, 1] (by kernel_rfl)) (qe hM) (fun Xo w hM  hst => qk hS.ev hst.appF rfl fun hS => ?_))
      replace hS : Ss _ _ _ H [Xw, Xx] F _ _ := hS
      refine qq ?_
      replace hst := hS.st
      obtain ⟨hcl, hmust, hav2, hA⟩ := dn (vals' := [some (.slice Xp Xl.length Xr), some (.slice Xf Xe.length Xk), some (.int .i64 Xd), some (zF Xf (Int.toNat Xd * 2)), some (zF Xf (Int.toNat Xd * 2 + 0)), some (qg ((rd Xe Xd).Tag_)), some (.slice Xf Xe.length Xk), some (.int .i64 Xd), some (zF Xf (Int.toNat Xd * 2)), some (zF Xf (Int.toNat Xd * 2 + 1)), some (qg ((rd Xe Xd).Data_)), some (.int .u32 Xo), some (.int .i64 (wr .i64 Xo)), none, none, some (.int .i64 Xg), some (.slice Xq Xj.length Xs), some (.int .i64 (Xj.length : Int)), some (.int .i64 (qB (Xg + (Xj.length : Int)))), none, none, some (.slice Xf Xe.length Xk), some (.int .i64 Xd), some (zF Xf (Int.toNat Xd * 2)), some (zF Xf (Int.toNat Xd * 2 + 1)), some (qg ((rd Xe Xd).Data_)), some (.int .i64 (((rd Xe Xd).Data_).length : Int)), none, none, none, none]) 11 [(10, 11), (9, 10), (8, 9), (6, 8), (7, 8)] hA hcl hav hm hpre hk rfl rfl rfl rfl rfl rfl rfl
      clear hm hav
      refine xU hA hst ho hcl hav2 hmust 13 [0, 1, 2, 3, 4, 5, 12, 15, 16, 17, 18, 21, 22, 23, 24, 25, 26] rfl rfl rfl rfl rfl (by exact ⟨nM rfl, nM rfl, nM rfl, nQ rfl (by exact qr (yD rfl rfl Tryd.runUnderlying24 Tryd.sizeOf36 Xh.wk (fun _ => rfl) rfl Xi) rfl), nQ rfl (by exact qr (xl (sz := 2) rfl Xh.wk (fun _ => rfl) rfl Xi Tryd.runUnderlying36 rfl Tryd.sizeOf9 rfl) rfl), nQ rfl (by exact qr (jk 0 rfl Xh.wk (fun _ => rfl) Xi rfl Tryd.isAgg9) rfl), nQ rfl (by exact qr (yC rfl Tryd.runUnderlying23 Tryd.runUnderlying3) rfl), nM rfl, nM rfl, nQ rfl (by exact qr (z5 rfl Tryd.runUnderlying39) rfl), nB rfl, nM rfl, nM rfl, nQ rfl (by exact qr (yD rfl rfl Tryd.runUnderlying24 Tryd.sizeOf36 Xh.wk (fun _ => rfl) rfl Xi) rfl), nQ rfl (by exact qr (xl (sz := 2) rfl Xh.wk (fun _ => rfl) rfl Xi Tryd.runUnderlying36 rfl Tryd.sizeOf9 rfl) rfl), nQ rfl (by exact qr (jk 1 rfl Xh.wk (fun _ => rfl) Xi rfl Tryd.isAgg9) rfl), nQ rfl (by exact qr (zL rfl Tryd.runUnderlying9) rfl), trivial⟩) fun D l a w ho hcl hav hpre hm hE hk hA hst => ?_
      have hS := (Ss.mk hE hst).env2 (e' := [(45, .int .i64 (wr .i64 Xo))]) ⟨rfl, trivial⟩
      refine qt rfl <| ql hS rfl Tryd.call44 (zR hG K (wr .i64 Xo) (hS.st.part 0 [0, 1] (by kernel_rfl)) (qe hM) (fun Xm w hM  hst => qk hS.ev hst.appF rfl fun hS => ?_))
      replace hS : Ss _ _ _ H [Xw, Xx] F _ _ := hS
      refine qq ?_
      replace hst := hS.st
      obtain ⟨XE, hM⟩ := qD hM
      obtain ⟨hcl, hmust, hav2, hA⟩ := dn (vals' := [some (.slice Xp Xl.length Xr), some (.slice Xf Xe.length Xk), some (.int .i64 Xd), some (zF Xf (Int.toNat Xd * 2)), some (zF Xf (Int.toNat Xd * 2 + 0)), some (qg ((rd Xe Xd).Tag_)), some (.slice Xf Xe.length Xk), some (.int .i64 Xd), some (zF Xf (Int.toNat Xd * 2)), some (zF Xf (Int.toNat Xd * 2 + 1)), some (qg ((rd Xe Xd).Data_)), some (.int .u32 Xo), some (.int .i64 (wr .i64 Xo)), some (qg Xm), some (qg ((rd Xe Xd).Tag_ ++ Xm)), some (.int .i64 Xg), some (.slice Xq Xj.length Xs), some (.int .i64 (Xj.length : Int)), some (.int .i64 (qB (Xg + (Xj.length : Int)))), none, none, some (.slice Xf Xe.length Xk), some (.int .i64 Xd), some (zF Xf (Int.toNat Xd * 2)), some (zF Xf (Int.toNat Xd * 2 + 1)), some (qg ((rd Xe Xd).Data_)), some (.int .i64 (((rd Xe Xd).Data_).length : Int)), none, none, none, none]) 13 [(11, 13), (12, 13), (10, 11), (9, 10), (8, 9), (6, 8), (7, 8)] hA hcl hav hm hpre hk rfl rfl rfl rfl rfl rfl rfl
      clear hm hav
      refine xU hA hst ho hcl hav2 hmust 19 [0, 1, 2, 3, 4, 5, 14, 15, 16, 17, 18, 21, 22, 23, 24, 25, 26] rfl rfl rfl rfl rfl (by exact ⟨nM rfl, nM rfl, nM rfl, nQ rfl (by exact qr (yD rfl rfl Tryd.runUnderlying24 Tryd.sizeOf36 Xh.wk (fun _ => rfl) rfl Xi) rfl), nQ rfl (by exact qr (xl (sz := 2) rfl Xh.wk (fun _ => rfl) rfl Xi Tryd.runUnderlying36 rfl Tryd.sizeOf9 rfl) rfl), nQ rfl (by exact qr (jk 0 rfl Xh.wk (fun _ => rfl) Xi rfl Tryd.isAgg9) rfl), nQ rfl (by exact qr (jv rfl rfl XE) rfl), nM rfl, nM rfl, nQ rfl (by exact qr (z5 rfl Tryd.runUnderlying39) rfl), nB rfl, nM rfl, nM rfl, nQ rfl (by exact qr (yD rfl rfl Tryd.runUnderlying24 Tryd.sizeOf36 Xh.wk (fun _ => rfl) rfl Xi) rfl), nQ rfl (by exact qr (xl (sz := 2) rfl Xh.wk (fun _ => rfl) rfl Xi Tryd.runUnderlying36 rfl Tryd.sizeOf9 rfl) rfl), nQ rfl (by exact qr (jk 1 rfl Xh.wk (fun _ => rfl) Xi rfl Tryd.isAgg9) rfl), nQ rfl (by exact qr (zL rfl Tryd.runUnderlying9) rfl), trivial⟩) fun D l a w ho hcl hav hpre hm hE hk hA hst => ?_
      have hS := (Ss.mk hE hst).env2 (e' := [(51, .int .i64 (qB (Xg + (Xj.length : Int))))]) ⟨rfl, trivial⟩
      refine qt rfl <| ql hS rfl Tryd.call44 (zR hG K (qB (Xg + (Xj.length : Int))) (hS.st.part 0 [0, 1] (by kernel_rfl)) (qe hM) (fun Xu w hM  hst => qk hS.ev hst.appF rfl fun hS => ?_))
      replace hS : Ss _ _ _ H [Xw, Xx] F _ _ := hS
      refine qq ?_
      replace hst := hS.st
      obtain ⟨XS, hM⟩ := qD hM
      obtain ⟨hcl, hmust, hav2, hA⟩ := dn (vals' := [some (.slice Xp Xl.length Xr), some (.slice Xf Xe.length Xk), some (.int .i64 Xd), some (zF Xf (Int.toNat Xd * 2)), some (zF Xf (Int.toNat Xd * 2 + 0)), some (qg ((rd Xe Xd).Tag_)), some (.slice Xf Xe.length Xk), some (.int .i64 Xd), some (zF Xf (Int.toNat Xd * 2)), some (zF Xf (Int.toNat Xd * 2 + 1)), some (qg ((rd Xe Xd).Data_)), some (.int .u32 Xo), some (.int .i64 (wr .i64 Xo)), some (qg Xm), some (qg ((rd Xe Xd).Tag_ ++ Xm)), some (.int .i64 Xg), some (.slice Xq Xj.length Xs), some (.int .i64 (Xj.length : Int)), some (.int .i64 (qB (Xg + (Xj.length : Int)))), some (qg Xu), some (qg (((rd Xe Xd).Tag_ ++ Xm) ++ Xu)), some (.slice Xf Xe.length Xk), some (.int .i64 Xd), some (zF Xf (Int.toNat Xd * 2)), some (zF Xf (Int.toNat Xd * 2 + 1)), some (qg ((rd Xe Xd).Data_)), some (.int .i64 (((rd Xe Xd).Data_).length : Int)), none, none, none, none]) 19 [(13, 19), (18, 19), (11, 13), (12, 13), (15, 18), (17, 18), (10, 11), (16, 17), (9, 10), (8, 9), (6, 8), (7, 8)] hA hcl hav hm hpre hk rfl rfl rfl rfl rfl rfl rfl
      clear hm hav
      refine xU hA hst ho hcl hav2 hmust 27 [0, 1, 2, 3, 4, 5, 14, 20, 21, 22, 23, 24, 25, 26] rfl rfl rfl rfl rfl (by exact ⟨nM rfl, nM rfl, nM rfl, nQ rfl (by exact qr (yD rfl rfl Tryd.runUnderlying24 Tryd.sizeOf36 Xh.wk (fun _ => rfl) rfl Xi) rfl), nQ rfl (by exact qr (xl (sz := 2) rfl Xh.wk (fun _ => rfl) rfl Xi Tryd.runUnderlying36 rfl Tryd.sizeOf9 rfl) rfl), nQ rfl (by exact qr (jk 0 rfl Xh.wk (fun _ => rfl) Xi rfl Tryd.isAgg9) rfl), nQ rfl (by exact qr (jv rfl rfl XE) rfl), nQ rfl (by exact qr (jv rfl rfl XS) rfl), nM rfl, nM rfl, nQ rfl (by exact qr (yD rfl rfl Tryd.runUnderlying24 Tryd.sizeOf36 Xh.wk (fun _ => rfl) rfl Xi) rfl), nQ rfl (by exact qr (xl (sz := 2) rfl Xh.wk (fun _ => rfl) rfl Xi Tryd.runUnderlying36 rfl Tryd.sizeOf9 rfl) rfl), nQ rfl (by exact qr (jk 1 rfl Xh.wk (fun _ => rfl) Xi rfl Tryd.isAgg9) rfl), nQ rfl (by exact qr (zL rfl Tryd.runUnderlying9) rfl), trivial⟩) fun D l a w ho hcl hav hpre hm hE hk hA hst => ?_
      have hS := (Ss.mk hE hst).env2 (e' := [(59, .int .i64 (((rd Xe Xd).Data_).length : Int))]) ⟨rfl, trivial⟩
      refine qt rfl <| ql hS rfl Tryd.call44 (zR hG K (((rd Xe Xd).Data_).length : Int) (hS.st.part 0 [0, 1] (by kernel_rfl)) (qe hM) (fun XD w hM  hst => qk hS.ev hst.appF rfl fun hS => ?_))
      replace hS : Ss _ _ _ H [Xw, Xx] F _ _ := hS
      refine qq ?_
      replace hst := hS.st
      obtain ⟨Yg, hM⟩ := qD hM
      obtain ⟨hcl, hmust, hav2, hA⟩ := dn (vals' := [some (.slice Xp Xl.length Xr), some (.slice Xf Xe.length Xk), some (.int .i64 Xd), some (zF Xf (Int.toNat Xd * 2)), some (zF Xf (Int.toNat Xd * 2 + 0)), some (qg ((rd Xe Xd).Tag_)), some (.slice Xf Xe.length Xk), some (.int .i64 Xd), some (zF Xf (Int.toNat Xd * 2)), some (zF Xf (Int.toNat Xd * 2 + 1)), some (qg ((rd Xe Xd).Data_)), some (.int .u32 Xo), some (.int .i64 (wr .i64 Xo)), some (qg Xm), some (qg ((rd Xe Xd).Tag_ ++ Xm)), some (.int .i64 Xg), some (.slice Xq Xj.length Xs), some (.int .i64 (Xj.length : Int)), some (.int .i64 (qB (Xg + (Xj.length : Int)))), some (qg Xu), some (qg (((rd Xe Xd).Tag_ ++ Xm) ++ Xu)), some (.slice Xf Xe.length Xk), some (.int .i64 Xd), some (zF Xf (Int.toNat Xd * 2)), some (zF Xf (Int.toNat Xd * 2 + 1)), some (qg ((rd Xe Xd).Data_)), some (.int .i64 (((rd Xe Xd).Data_).length : Int)), some (qg XD), some (qg ((((rd Xe Xd).Tag_ ++ Xm) ++ Xu) ++ XD)), none, none]) 27 [(19, 27), (26, 27), (13, 19), (18, 19), (25, 26), (11, 13), (12, 13), (15, 18), (17, 18), (24, 25), (10, 11), (16, 17), (23, 24), (9, 10), (21, 23), (22, 23), (8, 9), (6, 8), (7, 8)] hA hcl hav hm hpre hk rfl rfl rfl rfl rfl rfl rfl
      clear hm hav
      refine xU hA hst ho hcl hav2 hmust 29 [0, 1, 2, 3, 4, 5, 14, 20, 28] rfl rfl rfl rfl rfl (by exact ⟨nM rfl, nM rfl, nM rfl, nQ rfl (by exact qr (yD rfl rfl Tryd.runUnderlying24 Tryd.sizeOf36 Xh.wk (fun _ => rfl) rfl Xi) rfl), nQ rfl (by exact qr (xl (sz := 2) rfl Xh.wk (fun _ => rfl) rfl Xi Tryd.runUnderlying36 rfl Tryd.sizeOf9 rfl) rfl), nQ rfl (by exact qr (jk 0 rfl Xh.wk (fun _ => rfl) Xi rfl Tryd.isAgg9) rfl), nQ rfl (by exact qr (jv rfl rfl XE) rfl), nQ rfl (by exact qr (jv rfl rfl XS) rfl), nQ rfl (by exact qr (jv rfl rfl Yg) rfl), trivial⟩) fun D l a w ho hcl hav hpre hm hE hk hA hst => ?_
      have hS := (Ss.mk hE hst).env2 (e' := [(33, .slice Xp Xl.length Xr), (61, qg ((((rd Xe Xd).Tag_ ++ Xm) ++ Xu) ++ XD))]) ⟨rfl, rfl, trivial⟩
      refine qt rfl ?_
      obtain ⟨Yh, hM⟩ := qD hM
      refine Zu 0 hS rfl rfl XP rfl Tryd.runUnderlying39 Tryd.runUnderlying9 X.el5 rfl Yh rfl fun Xv w XB XC XV hz X4 hS => ?_
      have hM := qE hz hM; clear hz
      refine qq ?_
      replace hst := hS.st
      obtain ⟨hcl, hmust, hav2, hA⟩ := dn (vals' := [some (.slice Xp Xl.length Xr), some (.slice Xf Xe.length Xk), some (.int .i64 Xd), some (zF Xf (Int.toNat Xd * 2)), some (zF Xf (Int.toNat Xd * 2 + 0)), some (qg ((rd Xe Xd).Tag_)), some (.slice Xf Xe.length Xk), some (.int .i64 Xd), some (zF Xf (Int.toNat Xd * 2)), some (zF Xf (Int.toNat Xd * 2 + 1)), some (qg ((rd Xe Xd).Data_)), some (.int .u32 Xo), some (.int .i64 (wr .i64 Xo)), some (qg Xm), some (qg ((rd Xe Xd).Tag_ ++ Xm)), some (.int .i64 Xg), some (.slice Xq Xj.length Xs), some (.int .i64 (Xj.length : Int)), some (.int .i64 (qB (Xg + (Xj.length : Int)))), some (qg Xu), some (qg (((rd Xe Xd).Tag_ ++ Xm) ++ Xu)), some (.slice Xf Xe.length Xk), some (.int .i64 Xd), some (zF Xf (Int.toNat Xd * 2)), some (zF Xf (Int.toNat Xd * 2 + 1)), some (qg ((rd Xe Xd).Data_)), some (.int .i64 (((rd Xe Xd).Data_).length : Int)), some (qg XD), some (qg ((((rd Xe Xd).Tag_ ++ Xm) ++ Xu) ++ XD)), some (.slice XB Xv.length XC), some (.slice XB Xv.length XC)]) 29 [(0, 29), (27, 29), (28, 29), (19, 27), (26, 27), (20, 28), (13, 19), (18, 19), (25, 26), (14, 20), (11, 13), (12, 13), (15, 18), (17, 18), (24, 25), (5, 14), (10, 11), (16, 17), (23, 24), (4, 5), (9, 10), (21, 23), (22, 23), (3, 4), (8, 9), (1, 3), (2, 3), (6, 8), (7, 8)] hA hcl hav hm hpre hk rfl rfl rfl rfl rfl rfl rfl
      clear hm hav
      refine xo hA hst ho hcl hmust [30] rfl rfl rfl (by exact ⟨nA rfl, trivial⟩) fun a w hS => ?_
      replace hS := hS.env2 (e' := [(1, .slice Xf Xe.length Xk), (6, .slice XB Xv.length XC), (7, .slice Xq Xj.length Xs), (8, .int .i64 Xg), (9, .int .i64 Xd)]) ⟨rfl, rfl, rfl, rfl, rfl, trivial⟩
      refine qc <| qf <| sM hS rfl fun hS => sM hS rfl fun hS => sM hS rfl fun hS => sO hS (yD rfl rfl Tryd.runUnderlying24 Tryd.sizeOf36 Xh.wk (fun _ => rfl) rfl Xi) rfl fun hS => sO hS (xl (sz := 2) rfl Xh.wk (fun _ => rfl) rfl Xi Tryd.runUnderlying36 rfl Tryd.sizeOf9 rfl) rfl fun hS => sO hS (jk 1 rfl Xh.wk (fun _ => rfl) Xi rfl Tryd.isAgg9) rfl fun hS => ?_
      obtain ⟨Yi, hM⟩ := qD hM
      refine Zu 1 hS rfl rfl XQ rfl Tryd.runUnderlying39 Tryd.runUnderlying9 X.el5 rfl Yi rfl fun Ym w Yq Yt Yx hz X5 hS => ?_
      have hM := qE hz hM; clear hz
      refine sA hS rfl fun hS => qq <| xT <| zo (fun XW a w => ∃ (XF : Option Addr) (XG : Nat) (Xy : (List Int)) (XH : qi), Ss 81 [] [(1, .slice Xf Xe.length Xk), (6, .slice XB Xv.length XC), (7, .slice XF Xy.length XG), (8, .int .i64 Xg), (9, .int .i64 Xd)] H [XV, XH] F a w ∧ (zX 5 (ci .u8) 1 XF Xy XG XH) ∧ (qd.l3 K (qd.l2 K Xe Xg XT) Xd Xv XW Xy).wp kr kp) K ?_ ?_ ?_
      ·exact ⟨Yq, Yt, Ym, Yx, hS.to [0, 1] (by kernel_rfl) ⟨rfl, rfl, rfl, rfl, rfl, trivial⟩, X5, hM⟩
      ·intro a w hI; obtain ⟨_, _, _, _, _, _, hM⟩ := hI; exact zj hM
      ·intro XW a w hI YG XZ
       obtain ⟨XF, XG, Xy, XH, hS, XR, hM⟩ := hI
       rw [qd.l3] at hM
       refine wp_seq <| qf <| sM hS rfl fun hS => sO hS (z5 rfl Tryd.runUnderlying39) rfl fun hS => sO hS (rem rfl rfl rfl) rfl fun hS => sB hS rfl fun hS => qq <| qC hS rfl hM (fun Yd hM => ?_) (fun Yd hM => ?_)
       ·refine wp_skip ?_
        refine qc <| xT <| zB <| sM hS rfl fun hS => Zd (g := (ci .u8)) ([(0 : Int)] : List Int) [.int .u8 (0 : Int)] hS Tryd.runUnderlying39 Tryd.sizeOf5 X.el5 rfl rfl rfl (by simp [Value.cells]) rfl rfl rfl rfl rfl fun w YD YJ YL X6 hS => ?_
        obtain ⟨Yj, hM⟩ := qD hM
        refine Zc (ys := ([(0 : Int)] : List Int)) 2 hS rfl rfl XR rfl (X6.rd (i := 0) rfl) Tryd.runUnderlying39 Tryd.runUnderlying39 X.el5 (fun _ => rfl) rfl vc Yj rfl fun Yn w Yr Yu Yy hz X7 hS => ?_
        have hM := qE hz hM; clear hz
        refine sA hS rfl fun hS => qY <| zU (qc ?_)
        exact XZ _ _ ⟨Yr, Yu, Yn, Yy, hS.to [1, 2] (by kernel_rfl) ⟨rfl, rfl, rfl, rfl, rfl, trivial⟩, X7, hM⟩
       ·refine wp_exit ?_
        refine qN (qN (za (zU (qc ?_))))
        refine zB <| sM hS rfl fun hS => sB hS rfl fun hS => q9 (v := Value.int .i64) (x0 := (qB (Xd + (1 : Int)))) hS (zP rfl) rfl fun Yz a w hz hS => ?_
        have hM := qE hz hM; clear hz
        refine qY <| qc ?_
        exact X0 _ _ ⟨XB, XC, Xv, XV, XF, XG, Xy, XH, Yz, hS.to [0, 1] (by kernel_rfl) ⟨rfl, rfl, rfl, rfl, rfl, trivial⟩, X4, XR, hM⟩
     ·refine wp_exit ?_
      refine qN (qN (za (qc ?_)))
      exact X1 _ _ ⟨Xp, Xr, Xl, Xw, Xq, Xs, Xj, Xx, hS.to [0, 1] (by kernel_rfl) ⟨rfl, rfl, trivial⟩, XP, XQ, hM⟩
   ·intro a w hI
    obtain ⟨XI, XK, Xt, XM, XJ, XL, Xz, XN, hS, X8, X9, hM⟩ := hI
    rw [qd.j4] at hM
    refine qf <| sM hS rfl fun hS => sM hS rfl fun hS => ?_
    obtain ⟨Yk, hM⟩ := qD hM
    refine Zc (ys := Xz) 0 hS rfl rfl X8 rfl (X9.rd (i := 1) rfl) Tryd.runUnderlying39 Tryd.runUnderlying39 X.el5 (fun _ => rfl) rfl vc Yk rfl fun Yo w YE YK YM hz Ya hS => ?_
    have hM := qE hz hM; clear hz
    refine sO hS (Zw rfl Tryd.runUnderlying39 Tryd.runUnderlying5 Tryd.runUnderlying9 (Ya.rd (i := 0) rfl)) rfl fun hS => q9 (v := qg) (x0 := (Yo.map jt)) hS (zP rfl) rfl fun YA a w hz hS => ?_
    have hM := qE hz hM; clear hz
    refine sA hS rfl fun hS => qq <| wp_ret ?_
    exact qG (rs := [4, 5]) hS rfl rfl (hret YA (0 : Int) _ (qz hM) (hS.st.pick [] (by kernel_rfl)))
theorem xO {H : zg} {F : List qi} {w : World} {R : Ending → World → Prop} {kr : Bool → Prop} {kp : Value → Prop} (hG : Gl H) (K : Nat) (kind1 : Int) (l_2 : List qb) (A3 : Option Addr) (c4 : Nat) (hr5 : x2 H [] F qb.cells A3 l_2) (hc6 : l_2.length ≤ c4)
    (hS : St w H [] F) (hm : (qo.m K kind1 l_2).wp kr kp)
    (hret : ∀ (Xs : Bool) (w : World), kr Xs → St w H [] F → R (.returned (.bool Xs)) w) :
    Calls Tryd.prog 4 ⟨[.int .u32 kind1, .slice A3 l_2.length c4]⟩ w R := by
 refine enter Tryd.func4 rfl Tryd.ntmps4 rfl hS fun a w hS => ?_
 have hM := hm; clear hm
 rw [qo.m] at hM
 refine qf <| sA hS rfl fun hS => qq <| wp_seq <| qf <| sM hS rfl fun hS => ql hS rfl Tryd.call13 (yg hG K l_2 A3 c4 (hr5.app _) hc6 (hS.st.part 0 [] (by kernel_rfl)) (qe hM) (fun XC w hM  hst => qk hS.ev hst.appF rfl fun hS => ?_))
 replace hS : Ss _ _ _ H [] F _ _ := hS
 refine sO hS (un rfl rfl) rfl fun hS => qq <| qC hS rfl hM (fun Xy hM => ?_) (fun Xy hM => ?_)
 ·refine wp_seq ?_
  refine zB <| ql hS rfl Tryd.call9 (xz hG K  (hS.st.part 0 [] (by kernel_rfl)) (qe hM) (fun Xv w hM  hst => qk hS.ev hst.appF rfl fun hS => ?_))
  replace hS : Ss _ _ _ H [] F _ _ := hS
  refine sA hS rfl fun hS => qq <| wp_ret <| qm ?_
  exact qG (rs := [4]) hS rfl rfl (hret Xv _ (qz hM) (hS.st.pick [] (by kernel_rfl)))
 ·refine wp_skip ?_
  refine qc <| qf <| sA hS rfl fun hS => ?_
  obtain ⟨XB, Xt, hS⟩ := hS.nilV 36 qb.cells 2
  refine qq <| qf <| sM hS rfl fun hS => sM hS rfl fun hS => ?_
  obtain ⟨Xu, hM⟩ := qD hM
  refine Zc (ys := l_2) 0 hS rfl rfl Xt rfl hr5.wk Tryd.runUnderlying24 Tryd.runUnderlying24 X.el36 (fun _ => rfl) rfl uh Xu rfl fun Xl w Xm Xn Xi hz Xf hS => ?_
  have hM := qE hz hM; clear hz
  refine sA hS rfl fun hS => qq <| qf <| sM hS rfl fun hS => sM hS rfl fun hS => ql hS rfl Tryd.call14 (x6 hG K kind1 Xl Xm Xn (Xf.rdF (i := 0) rfl) (Xf.cap (fun _ => rfl) rfl) (hS.st.part 0 [0] (by kernel_rfl)) (qe hM) (fun Xo Xp w hM  hst => qk hS.ev hst.appF rfl fun hS => ?_))
  replace hS : Ss _ _ _ H [Xi] F _ _ := hS
  refine sM hS rfl fun hS => sO hS (ex rfl rfl) rfl fun hS => sO hS (ex rfl rfl) rfl fun hS => sA hS rfl fun hS => sA hS rfl fun hS => qq <| qf <| sM hS rfl fun hS => sM hS rfl fun hS => ql hS rfl Tryd.call15 (yj hG K kind1 l_2 A3 c4 (hr5.app _) hc6 (hS.st.part 0 [0] (by kernel_rfl)) (qe hM) (fun Xq Xr w hM  hst => qk hS.ev hst.appF rfl fun hS => ?_))
  replace hS : Ss _ _ _ H [Xi] F _ _ := hS
  refine sM hS rfl fun hS => sO hS (ex rfl rfl) rfl fun hS => sO hS (ex rfl rfl) rfl fun hS => sA hS rfl fun hS => sA hS rfl fun hS => qq <| qf <| sM hS rfl fun hS => sM hS rfl fun hS => sO hS (jK rfl rfl rfl) rfl fun hS => sM hS rfl fun hS => z4 3 true 32 (b := (Xo == Xq)) (r := (Xp == Xr)) hS rfl rfl rfl rfl rfl rfl rfl (fun hb a w hS K hK => ?_) rfl fun a w hS => ?_
  ·refine qI hS rfl rfl rfl hb (mv rfl) rfl fun a w hS => ?_
   refine qI hS rfl rfl rfl hb (mv rfl) rfl fun a w hS => qI hS rfl rfl rfl hb (xk rfl rfl rfl) rfl fun a w hS => ?_
   exact qY (hK _ _ (hS.up 3 rfl rfl))
  refine sM hS rfl fun hS => xv (fun a w => ∃ (Xg : Bool), Ss 45 [] [(41, .bool Xg)] H [] F a w ∧ (qo.j1 K Xg).wp kr kp) 4 (fun Xz Xj => ?_) ?_
  ·refine uf (b := ((Xo == Xq) && (Xp == Xr))) hM (fun Xd hM => ?_) (fun Xd hM => ?_)
   ·replace hS := hS.re 36 (v := .bool true) rfl (congrArg Value.bool Xd)
    replace hS := hS.re 37 (v := .bool true) rfl (congrArg Value.bool Xd)
    refine qI hS rfl rfl rfl rfl (mv rfl) rfl fun a w hS => qI hS rfl rfl rfl rfl (mv rfl) rfl fun a w hS => xp hS rfl rfl rfl rfl <| ql hS rfl Tryd.call12 (xA hG K Xl l_2 Xm Xn A3 c4 (Xf.rdF (i := 0) rfl) (Xf.cap (fun _ => rfl) rfl) (hr5.app _) hc6 (hS.st.part 0 [0] (by kernel_rfl)) (qe hM) (fun Xw w hM  hst => qk hS.ev hst.appF rfl fun hS => ?_))
    replace hS : Ss _ _ _ H [Xi] F _ _ := hS
    refine sO hS (pk rfl rfl rfl) rfl fun hS => qY <| qc ?_
    exact Xj _ _ ⟨Xw, hS.to [] (by kernel_rfl) ⟨rfl, trivial⟩, hM⟩
   ·replace hS := hS.re 36 (v := .bool false) rfl (congrArg Value.bool Xd)
    replace hS := hS.re 37 (v := .bool false) rfl (congrArg Value.bool Xd)
    refine jn 3 hS rfl fun a w hS => sO hS (pk rfl rfl rfl) rfl fun hS => qY <| qc ?_
    exact Xj _ _ ⟨false, hS.to [] (by kernel_rfl) ⟨rfl, trivial⟩, hM⟩
  ·intro a w hI
   obtain ⟨Xg, hS, hM⟩ := hI
   rw [qo.j1] at hM
   refine sM hS rfl fun hS => xv (fun a w => ∃ (Xh : Bool), Ss 45 [] [(44, .bool Xh)] H [] F a w ∧ (qo.j2 K Xh).wp kr kp) 2 (fun XA Xk => ?_) ?_
   ·refine uf (b := Xg) hM (fun Xe hM => ?_) (fun Xe hM => ?_)
    ·replace hS := hS.re 41 (v := .bool true) rfl (congrArg Value.bool Xe)
     replace hS := hS.re 42 (v := .bool true) rfl (congrArg Value.bool Xe)
     refine xp hS rfl rfl rfl rfl <| ql hS rfl Tryd.call9 (xz hG K  (hS.st.part 0 [] (by kernel_rfl)) (qe hM) (fun Xx w hM  hst => qk hS.ev hst.appF rfl fun hS => ?_))
     replace hS : Ss _ _ _ H [] F _ _ := hS
     refine sO hS (pk rfl rfl rfl) rfl fun hS => qY <| qc ?_
     exact Xk _ _ ⟨Xx, hS.to [] (by kernel_rfl) ⟨rfl, trivial⟩, hM⟩
    ·replace hS := hS.re 41 (v := .bool false) rfl (congrArg Value.bool Xe)
     replace hS := hS.re 42 (v := .bool false) rfl (congrArg Value.bool Xe)
     refine jn 1 hS rfl fun a w hS => sO hS (pk rfl rfl rfl) rfl fun hS => qY <| qc ?_
     exact Xk _ _ ⟨false, hS.to [] (by kernel_rfl) ⟨rfl, trivial⟩, hM⟩
   ·intro a w hI
    obtain ⟨Xh, hS, hM⟩ := hI
    rw [qo.j2] at hM
    refine sA hS rfl fun hS => qq <| wp_ret ?_
    exact qG (rs := [4]) hS rfl rfl (hret Xh _ (qz hM) (hS.st.pick [] (by kernel_rfl)))
end Go.TrydS

