/- Printed by a program of mine: each Go function answers what its model answers; conditions: what each theorem asks of memory. -/
import Derived.Test.YtlaobafbdllajaaDoorP1xhdnep
set_option linter.unusedVariables false
set_option linter.unusedSimpArgs false
set_option maxRecDepth 100000
namespace Go.TrydS
open Go Go.Sl Go.Mo Go.Proofs
attribute [local irreducible] qJ.wp
theorem y2 {H : zm} {F : List qi} {w : World} {R : Ending → World → Prop} {kr : ((List UInt8) × (List UInt8) × Int × (List qa)) → Prop} {kp : Value → Prop} (hG : Gl H) (K : Nat) (YC : xg) (YI : qp) (YE : Nat) (YT : qi) (Y1 : Nat) (YR : qi) (Jb : Option Addr) (Jd : Nat) (YS : qi) (YY : yy YT YE ([qf YC.Window_.text_, .int .i64 YC.Window_.base_, qy Y1 0]) 52) (Y7 : yy YR Y1 ([.slice Jb YC.claims_.items_.length Jd]) 87) (Y8 : z5 93 qa.cells 3 Jb YC.claims_.items_ Jd YS)
    (hS : St w H [YT, YR, YS] F) (hm : (qA.m K YC YI).wp kr kp)
    (hret : ∀ (Jq : List UInt8) (Je : List UInt8) (J4 : Int) (JA : Option Addr) (JC : Nat) (YZ : (List qa)) (JE : qi) (JF : qi) (w : World), kr (Jq, Je, J4, YZ) → (z5 93 qa.cells 3 JA YZ JC JE) → (yy JF Y1 ([.slice JA YZ.length JC]) 87) → St w H [YT, JF, JE] F → R (.returned (.tuple ⟨[.agg ⟨[qf Jq, qf Je]⟩, .int .i64 J4]⟩)) w) :
    Calls Tryd.prog 31 ⟨[qy YE 0, .agg ⟨[qf YI.text_, .int .i64 YI.base_]⟩]⟩ w R := by
 refine enter Tryd.func31 rfl Tryd.ntmps31 rfl hS fun a w hS => ?_
 have hM := hm; clear hm
 rw [qA.m] at hM
 refine qg <| bx ([qf YI.text_, .int .i64 YI.base_]) hS rfl rfl rfl fun w Vb Y2 Jf hS => ub ([qf ([] : List UInt8), qf ([] : List UInt8)]) hS Tryd.zeroValue36 rfl rfl fun w Jg YV Y0 hS => sA hS rfl fun hS => qs <| qg <| sO hS (x4 1 rfl Jf rfl ([qf YI.text_, .int .i64 YI.base_]) rfl rfl Tryd.isAgg47 Tryd.sizeOf47) rfl fun hS => qm hS rfl Tryd.call27 (zG hG K YI (hS.st.part 0 [0, 1, 2, 3, 4] (by kernel_rfl)) (qe hM) (fun  w hM  hst => qk hS.ev hst.appF rfl fun hS => ?_))
 replace hS : Ss _ _ _ H [YV, Y2, YT, YR, YS] F _ _ := hS
 obtain ⟨J1, hM⟩ := qI hM
 refine sO hS (Xr rfl Tryd.runUnderlying9 Xx (Xd rfl) J1) rfl fun hS => zd (v := qf) (x0 := (sub YI.text_ (0 : Int) (4 : Int))) hS (zW rfl) rfl fun YH a w hz hS => ?_
 have hM := qK hz hM; clear hz
 refine qs <| qg <| sO hS (x4 1 rfl Jf rfl ([qf YI.text_, .int .i64 YI.base_]) rfl rfl Tryd.isAgg47 Tryd.sizeOf47) rfl fun hS => qm hS rfl Tryd.call25 (zk hG K YI (4 : Int) (4 : Int) (hS.st.part 0 [0, 1, 2, 3, 4] (by kernel_rfl)) (qe hM) (fun Ja Vj w hM  hst => qk hS.ev hst.appF rfl fun hS => ?_))
 replace hS : Ss _ _ _ H [YV, Y2, YT, YR, YS] F _ _ := hS
 refine sM hS rfl fun hS => sO hS (ex rfl rfl) rfl fun hS => sO hS (ex rfl rfl) rfl fun hS => sA hS rfl fun hS => sA hS rfl fun hS => qs <| qg <| sO hS (x4 1 rfl Jf rfl ([qf YI.text_, .int .i64 YI.base_]) rfl rfl Tryd.isAgg47 Tryd.sizeOf47) rfl fun hS => qm hS rfl Tryd.call25 (zk hG K YI (8 : Int) (4 : Int) (hS.st.part 0 [0, 1, 2, 3, 4] (by kernel_rfl)) (qe hM) (fun YD Vk w hM  hst => qk hS.ev hst.appF rfl fun hS => ?_))
 replace hS : Ss _ _ _ H [YV, Y2, YT, YR, YS] F _ _ := hS
 refine sM hS rfl fun hS => sO hS (ex rfl rfl) rfl fun hS => sO hS (ex rfl rfl) rfl fun hS => sA hS rfl fun hS => sA hS rfl fun hS => qs <| qg <| sO hS (x4 1 rfl Jf rfl ([qf YI.text_, .int .i64 YI.base_]) rfl rfl Tryd.isAgg47 Tryd.sizeOf47) rfl fun hS => qm hS rfl Tryd.call25 (zk hG K YI (12 : Int) (4 : Int) (hS.st.part 0 [0, 1, 2, 3, 4] (by kernel_rfl)) (qe hM) (fun YG Vl w hM  hst => qk hS.ev hst.appF rfl fun hS => ?_))
 replace hS : Ss _ _ _ H [YV, Y2, YT, YR, YS] F _ _ := hS
 refine sM hS rfl fun hS => sO hS (ex rfl rfl) rfl fun hS => sO hS (ex rfl rfl) rfl fun hS => sA hS rfl fun hS => sA hS rfl fun hS => qs <| wp_seq <| qg <| sM hS rfl fun hS => sB hS rfl fun hS => sB hS rfl fun hS => sM hS rfl fun hS => z6 2 false 38 (b := ((jf .u64 YD (3 : Int)) != (0 : Int))) (r := (decide (YG > (16777216 : Int)))) hS rfl rfl rfl rfl rfl rfl rfl (fun hb a w hS K hK => ?_) rfl fun a w hS => ?_
 ·refine qG hS rfl rfl rfl hb (mv rfl) rfl fun a w hS => ?_
  refine qG hS rfl rfl rfl hb (xD rfl rfl rfl) rfl fun a w hS => ?_
  exact qZ (hK _ _ (hS.up 2 rfl rfl))
 refine qs <| qH hS rfl hM (fun JV hM => ?_) (fun JV hM => ?_)
 ·refine wp_seq ?_
  refine zH <| sO hS (ug ([qf ([] : List UInt8), qf ([] : List UInt8)]) [(0, 1), (1, 1)] Tryd.zeroValue36 Tryd.runUnderlying36 (by intro w; simp [Tryd.sizeOf9]) rfl rfl) rfl fun hS => vB 0 ([qf ([] : List UInt8), qf ([] : List UInt8)]) ([qf ([] : List UInt8), qf ([] : List UInt8)]) hS rfl rfl Y0 rfl rfl Tryd.sizeOf36 (by simp [Value.oneCell']) (Nat.le_of_ble_eq_true rfl) rfl fun w Vc JI hS => sA hS rfl fun hS => qs <| wp_ret <| qo ?_
  exact ya (vs := [.agg ⟨[qf ([] : List UInt8), qf ([] : List UInt8)]⟩, .int .i64 (3 : Int)]) hS rfl (by exact ⟨ZD 0 ([qf ([] : List UInt8), qf ([] : List UInt8)]) rfl JI rfl rfl rfl Tryd.isAgg36 Tryd.sizeOf36, ZZ rfl, trivial⟩) (hret ([] : List UInt8) ([] : List UInt8) (3 : Int) Jb Jd YC.claims_.items_ YS YR _ (qD hM) Y8 Y7 (hS.st.pick [2, 3, 4] (by kernel_rfl)))
 ·refine wp_skip ?_
  refine qd <| zn (fun a w => ∃ (Jw : Nat) (YF : List UInt8) (YK : Int) (Y6 : qi) (Y5 : Int), Ss 99 [] [(0, qy YE 0), (4, qy Jg 0), (6, qf YH), (7, .int .u64 Ja), (9, .int .u64 YD), (11, .int .u64 YG), (13, qy Jw 0), (14, .int .i64 Y5)] H [YT, YR, YS, YV, Y6] F a w ∧ (yy Y6 Jw ([qf YF, .int .i64 YK]) 47) ∧ (qA.j1 K YC YH Ja YD YG YF YK Y5).wp kr kp) (fun J9 Jp => ?_) ?_
  ·refine q8 (vals := [some (qy YE 0), some (qy YE 0), some (qy YE 0), some (.agg ⟨[qf YC.Window_.text_, .int .i64 YC.Window_.base_]⟩), some (.int .u64 YD), some (.int .i64 (wr .i64 YD)), some (.int .u64 YG), some (.int .i64 (wr .i64 YG)), none, none, none, none, none, none, none, none]) hS xr rfl ?_
   intro l w ho hcl hA hst
   refine u9 (vals := [some (qy YE 0), some (qy YE 0), some (qy YE 0), some (.agg ⟨[qf YC.Window_.text_, .int .i64 YC.Window_.base_]⟩), some (.int .u64 YD), some (.int .i64 (wr .i64 YD)), some (.int .u64 YG), some (.int .i64 (wr .i64 YG)), none, none, none, none, none, none, none, none]) 8 13 [] [0, 1, 2, 3, 4, 5, 6, 7] rfl rfl rfl rfl rfl (by exact ⟨nM rfl, nQ rfl (by exact qr (jv rfl) rfl), nQ rfl (by exact qr (zX rfl Tryd.runUnderlying52 rfl Tryd.sizeOf47 rfl) rfl), nQ rfl (by exact qr (x4 2 rfl YY rfl ([qf YC.Window_.text_, .int .i64 YC.Window_.base_]) rfl rfl Tryd.isAgg47 Tryd.sizeOf47) rfl), nM rfl, nQ rfl (by exact qr (yb rfl Tryd.runUnderlying55 Tryd.runUnderlying3) rfl), nM rfl, nQ rfl (by exact qr (yb rfl Tryd.runUnderlying55 Tryd.runUnderlying3) rfl), trivial⟩) (fun D l a w ho hcl hav hpre hm hE hk hA hst => ?_) (fun D l a w ho hcl hav hpre hm hE hk hA hst => ?_) ho hcl xd xv List.not_mem_nil List.not_mem_nil hA hst
   ·have hS := (Ss.mk hE hst).env2 (e' := [(51, .int .i64 (wr .i64 YG))]) ⟨rfl, trivial⟩
    refine qt rfl <| qm hS rfl Tryd.call32 (xy hG K (wr .i64 YG) (hS.st.part 0 [0, 1, 2, 3, 4] (by kernel_rfl)) (qe hM) (fun YW w hM  hst => qk hS.ev hst.appF rfl fun hS => ?_))
    replace hS : Ss _ _ _ H [YV, Y2, YT, YR, YS] F _ _ := hS
    refine qs ?_
    replace hst := hS.st
    obtain ⟨hcl, hmust, hav2, hA⟩ := dn (vals' := [some (qy YE 0), some (qy YE 0), some (qy YE 0), some (.agg ⟨[qf YC.Window_.text_, .int .i64 YC.Window_.base_]⟩), some (.int .u64 YD), some (.int .i64 (wr .i64 YD)), some (.int .u64 YG), some (.int .i64 (wr .i64 YG)), some (.int .i64 YW), none, none, none, none, none, none, none]) 8 [(7, 8), (6, 7)] hA hcl hav hm hpre hk rfl rfl rfl rfl rfl rfl rfl
    clear hm hav
    refine u9 (vals := [some (qy YE 0), some (qy YE 0), some (qy YE 0), some (.agg ⟨[qf YC.Window_.text_, .int .i64 YC.Window_.base_]⟩), some (.int .u64 YD), some (.int .i64 (wr .i64 YD)), some (.int .u64 YG), some (.int .i64 (wr .i64 YG)), some (.int .i64 YW), none, none, none, none, none, none, none]) 9 13 [8, 7, 6] [0, 1, 2, 3, 4, 5] rfl rfl rfl rfl rfl (by exact ⟨nM rfl, nQ rfl (by exact qr (jv rfl) rfl), nQ rfl (by exact qr (zX rfl Tryd.runUnderlying52 rfl Tryd.sizeOf47 rfl) rfl), nQ rfl (by exact qr (x4 2 rfl YY rfl ([qf YC.Window_.text_, .int .i64 YC.Window_.base_]) rfl rfl Tryd.isAgg47 Tryd.sizeOf47) rfl), nM rfl, nQ rfl (by exact qr (yb rfl Tryd.runUnderlying55 Tryd.runUnderlying3) rfl), trivial⟩) (fun D l a w ho hcl hav hpre hm hE hk hA hst => ?_) (fun D l a w ho hcl hav hpre hm hE hk hA hst => ?_) ho hcl hav2 hmust (hav2.notin rfl) (hav2.notin rfl) hA hst
    ·have hS := (Ss.mk hE hst).env2 (e' := [(47, .agg ⟨[qf YC.Window_.text_, .int .i64 YC.Window_.base_]⟩), (49, .int .i64 (wr .i64 YD)), (52, .int .i64 YW)]) ⟨rfl, rfl, rfl, trivial⟩
     refine qt rfl <| qm hS rfl Tryd.call24 (zp hG K YC.Window_ (wr .i64 YD) YW (hS.st.part 0 [0, 1, 2, 3, 4] (by kernel_rfl)) (qe hM) (fun YL YJ YX w hM  hst => qk hS.ev hst.appF rfl fun hS => ?_))
     replace hS : Ss _ _ _ H [YV, Y2, YT, YR, YS] F _ _ := hS
     refine qs ?_
     replace hst := hS.st
     obtain ⟨hcl, hmust, hav2, hA⟩ := dn (vals' := [some (qy YE 0), some (qy YE 0), some (qy YE 0), some (.agg ⟨[qf YC.Window_.text_, .int .i64 YC.Window_.base_]⟩), some (.int .u64 YD), some (.int .i64 (wr .i64 YD)), some (.int .u64 YG), some (.int .i64 (wr .i64 YG)), some (.int .i64 YW), some (.tuple ⟨[.agg ⟨[qf YL, .int .i64 YJ]⟩, .int .i64 YX]⟩), some (.tuple ⟨[.agg ⟨[qf YL, .int .i64 YJ]⟩, .int .i64 YX]⟩), some (.agg ⟨[qf YL, .int .i64 YJ]⟩), some (.int .i64 YX), none, none, none]) 9 [(3, 9), (5, 9), (8, 9), (2, 3), (4, 5), (7, 8), (1, 2), (6, 7), (0, 1)] hA hcl hav hm hpre hk rfl rfl rfl rfl rfl rfl rfl
     clear hm hav
     refine yc hA hst ho hcl hav2 hmust 13 [10, 11, 12] rfl rfl rfl rfl rfl (by exact ⟨nM rfl, nQ rfl (by exact qr (ex rfl rfl) rfl), nQ rfl (by exact qr (ex rfl rfl) rfl), trivial⟩) fun D l a w ho hcl hav hpre hm hE hk hA hst => ?_
     have hS := (Ss.mk hE hst).env2 (e' := []) trivial
     refine qt rfl <| ub ([qf ([] : List UInt8), .int .i64 (0 : Int)]) hS Tryd.zeroValue47 rfl rfl fun w Jm Vd JK hS => qs ?_
     replace hst := hS.st
     obtain ⟨hcl, hmust, hav2, hA⟩ := dn (vals' := [some (qy YE 0), some (qy YE 0), some (qy YE 0), some (.agg ⟨[qf YC.Window_.text_, .int .i64 YC.Window_.base_]⟩), some (.int .u64 YD), some (.int .i64 (wr .i64 YD)), some (.int .u64 YG), some (.int .i64 (wr .i64 YG)), some (.int .i64 YW), some (.tuple ⟨[.agg ⟨[qf YL, .int .i64 YJ]⟩, .int .i64 YX]⟩), some (.tuple ⟨[.agg ⟨[qf YL, .int .i64 YJ]⟩, .int .i64 YX]⟩), some (.agg ⟨[qf YL, .int .i64 YJ]⟩), some (.int .i64 YX), some (qy Jm 0), none, none]) 13 [] hA hcl hav hm hpre hk rfl rfl rfl rfl rfl rfl rfl
     clear hm hav
     refine yc hA hst ho hcl hav2 hmust 14 [10, 11, 12] rfl rfl rfl rfl rfl (by exact ⟨nM rfl, nQ rfl (by exact qr (ex rfl rfl) rfl), nQ rfl (by exact qr (ex rfl rfl) rfl), trivial⟩) fun D l a w ho hcl hav hpre hm hE hk hA hst => ?_
     have hS := (Ss.mk hE hst).env2 (e' := [(13, qy Jm 0), (54, .agg ⟨[qf YL, .int .i64 YJ]⟩)]) ⟨rfl, rfl, trivial⟩
     refine qt rfl <| vB 0 ([qf YL, .int .i64 YJ]) ([qf YL, .int .i64 YJ]) hS rfl rfl JK rfl rfl Tryd.sizeOf47 (by simp [Value.oneCell']) (Nat.le_of_ble_eq_true rfl) rfl fun w J5 JL hS => qs ?_
     replace hst := hS.st
     obtain ⟨hcl, hmust, hav2, hA⟩ := Xc (vals' := [some (qy YE 0), some (qy YE 0), some (qy YE 0), some (.agg ⟨[qf YC.Window_.text_, .int .i64 YC.Window_.base_]⟩), some (.int .u64 YD), some (.int .i64 (wr .i64 YD)), some (.int .u64 YG), some (.int .i64 (wr .i64 YG)), some (.int .i64 YW), some (.tuple ⟨[.agg ⟨[qf YL, .int .i64 YJ]⟩, .int .i64 YX]⟩), some (.tuple ⟨[.agg ⟨[qf YL, .int .i64 YJ]⟩, .int .i64 YX]⟩), some (.agg ⟨[qf YL, .int .i64 YJ]⟩), some (.int .i64 YX), some (qy Jm 0), some undef, some (.int .i64 YX)]) 14 [(0, 14), (1, 14), (2, 14), (3, 14), (4, 14), (5, 14), (6, 14), (7, 14), (8, 14), (9, 14), (10, 14), (11, 14), (13, 14)] hA hcl hav hm hpre rfl rfl rfl rfl rfl
     clear hm hav
     refine xE hA hst ho hcl hmust [12, 15] rfl rfl rfl (by exact ⟨nQ rfl (by exact qr (ex rfl rfl) rfl), nA rfl, trivial⟩) fun a w hS => ?_
     replace hS := hS.env2 (e' := [(0, qy YE 0), (4, qy Jg 0), (6, qf YH), (7, .int .u64 Ja), (9, .int .u64 YD), (11, .int .u64 YG), (13, qy Jm 0), (14, .int .i64 YX)]) ⟨rfl, rfl, rfl, rfl, rfl, rfl, rfl, rfl, trivial⟩
     refine qd ?_
     exact Jp _ _ ⟨Jm, YL, YJ, J5, YX, hS.to [3, 4, 5, 1, 0] (by kernel_rfl) ⟨rfl, rfl, rfl, rfl, rfl, rfl, rfl, rfl, trivial⟩, JL, hM⟩
    ·have hS := (Ss.mk hE hst).env2 (e' := []) trivial
     refine qt rfl <| ub ([qf ([] : List UInt8), .int .i64 (0 : Int)]) hS Tryd.zeroValue47 rfl rfl fun w Jh J6 JM hS => qs ?_
     replace hst := hS.st
     obtain ⟨hcl, hmust, hav2, hA⟩ := dn (vals' := [some (qy YE 0), some (qy YE 0), some (qy YE 0), some (.agg ⟨[qf YC.Window_.text_, .int .i64 YC.Window_.base_]⟩), some (.int .u64 YD), some (.int .i64 (wr .i64 YD)), some (.int .u64 YG), some (.int .i64 (wr .i64 YG)), some (.int .i64 YW), none, none, none, none, some (qy Jh 0), none, none]) 13 [] hA hcl hav hm hpre hk rfl rfl rfl rfl rfl rfl rfl
     clear hm hav
     refine yc hA hst ho hcl hav2 hmust 9 [0, 1, 2, 3, 4, 5] rfl rfl rfl rfl rfl (by exact ⟨nM rfl, nQ rfl (by exact qr (jv rfl) rfl), nQ rfl (by exact qr (zX rfl Tryd.runUnderlying52 rfl Tryd.sizeOf47 rfl) rfl), nQ rfl (by exact qr (x4 3 rfl YY rfl ([qf YC.Window_.text_, .int .i64 YC.Window_.base_]) rfl rfl Tryd.isAgg47 Tryd.sizeOf47) rfl), nM rfl, nQ rfl (by exact qr (yb rfl Tryd.runUnderlying55 Tryd.runUnderlying3) rfl), trivial⟩) fun D l a w ho hcl hav hpre hm hE hk hA hst => ?_
     have hS := (Ss.mk hE hst).env2 (e' := [(47, .agg ⟨[qf YC.Window_.text_, .int .i64 YC.Window_.base_]⟩), (49, .int .i64 (wr .i64 YD)), (52, .int .i64 YW)]) ⟨rfl, rfl, rfl, trivial⟩
     refine qt rfl <| qm hS rfl Tryd.call24 (zp hG K YC.Window_ (wr .i64 YD) YW (hS.st.part 0 [0, 1, 2, 3, 4, 5] (by kernel_rfl)) (qe hM) (fun YP YM Y3 w hM  hst => qk hS.ev hst.appF rfl fun hS => ?_))
     replace hS : Ss _ _ _ H [J6, YV, Y2, YT, YR, YS] F _ _ := hS
     refine qs ?_
     replace hst := hS.st
     obtain ⟨hcl, hmust, hav2, hA⟩ := dn (vals' := [some (qy YE 0), some (qy YE 0), some (qy YE 0), some (.agg ⟨[qf YC.Window_.text_, .int .i64 YC.Window_.base_]⟩), some (.int .u64 YD), some (.int .i64 (wr .i64 YD)), some (.int .u64 YG), some (.int .i64 (wr .i64 YG)), some (.int .i64 YW), some (.tuple ⟨[.agg ⟨[qf YP, .int .i64 YM]⟩, .int .i64 Y3]⟩), some (.tuple ⟨[.agg ⟨[qf YP, .int .i64 YM]⟩, .int .i64 Y3]⟩), some (.agg ⟨[qf YP, .int .i64 YM]⟩), some (.int .i64 Y3), some (qy Jh 0), none, none]) 9 [(3, 9), (5, 9), (8, 9), (2, 3), (4, 5), (7, 8), (1, 2), (6, 7), (0, 1)] hA hcl hav hm hpre hk rfl rfl rfl rfl rfl rfl rfl
     clear hm hav
     refine yc hA hst ho hcl hav2 hmust 14 [10, 11, 12] rfl rfl rfl rfl rfl (by exact ⟨nM rfl, nQ rfl (by exact qr (ex rfl rfl) rfl), nQ rfl (by exact qr (ex rfl rfl) rfl), trivial⟩) fun D l a w ho hcl hav hpre hm hE hk hA hst => ?_
     have hS := (Ss.mk hE hst).env2 (e' := [(13, qy Jh 0), (54, .agg ⟨[qf YP, .int .i64 YM]⟩)]) ⟨rfl, rfl, trivial⟩
     refine qt rfl <| vB 0 ([qf YP, .int .i64 YM]) ([qf YP, .int .i64 YM]) hS rfl rfl JM rfl rfl Tryd.sizeOf47 (by simp [Value.oneCell']) (Nat.le_of_ble_eq_true rfl) rfl fun w J7 JN hS => qs ?_
     replace hst := hS.st
     obtain ⟨hcl, hmust, hav2, hA⟩ := Xc (vals' := [some (qy YE 0), some (qy YE 0), some (qy YE 0), some (.agg ⟨[qf YC.Window_.text_, .int .i64 YC.Window_.base_]⟩), some (.int .u64 YD), some (.int .i64 (wr .i64 YD)), some (.int .u64 YG), some (.int .i64 (wr .i64 YG)), some (.int .i64 YW), some (.tuple ⟨[.agg ⟨[qf YP, .int .i64 YM]⟩, .int .i64 Y3]⟩), some (.tuple ⟨[.agg ⟨[qf YP, .int .i64 YM]⟩, .int .i64 Y3]⟩), some (.agg ⟨[qf YP, .int .i64 YM]⟩), some (.int .i64 Y3), some (qy Jh 0), some undef, some (.int .i64 Y3)]) 14 [(0, 14), (1, 14), (2, 14), (3, 14), (4, 14), (5, 14), (6, 14), (7, 14), (8, 14), (9, 14), (10, 14), (11, 14), (13, 14)] hA hcl hav hm hpre rfl rfl rfl rfl rfl
     clear hm hav
     refine xE hA hst ho hcl hmust [12, 15] rfl rfl rfl (by exact ⟨nQ rfl (by exact qr (ex rfl rfl) rfl), nA rfl, trivial⟩) fun a w hS => ?_
     replace hS := hS.env2 (e' := [(0, qy YE 0), (4, qy Jg 0), (6, qf YH), (7, .int .u64 Ja), (9, .int .u64 YD), (11, .int .u64 YG), (13, qy Jh 0), (14, .int .i64 Y3)]) ⟨rfl, rfl, rfl, rfl, rfl, rfl, rfl, rfl, trivial⟩
     refine qd ?_
     exact Jp _ _ ⟨Jh, YP, YM, J7, Y3, hS.to [3, 4, 5, 1, 0] (by kernel_rfl) ⟨rfl, rfl, rfl, rfl, rfl, rfl, rfl, rfl, trivial⟩, JN, hM⟩
   ·have hS := (Ss.mk hE hst).env2 (e' := []) trivial
    refine qt rfl <| ub ([qf ([] : List UInt8), .int .i64 (0 : Int)]) hS Tryd.zeroValue47 rfl rfl fun w Jc JD JO hS => qs ?_
    replace hst := hS.st
    obtain ⟨hcl, hmust, hav2, hA⟩ := dn (vals' := [some (qy YE 0), some (qy YE 0), some (qy YE 0), some (.agg ⟨[qf YC.Window_.text_, .int .i64 YC.Window_.base_]⟩), some (.int .u64 YD), some (.int .i64 (wr .i64 YD)), some (.int .u64 YG), some (.int .i64 (wr .i64 YG)), none, none, none, none, none, some (qy Jc 0), none, none]) 13 [] hA hcl hav hm hpre hk rfl rfl rfl rfl rfl rfl rfl
    clear hm hav
    refine yc hA hst ho hcl hav2 hmust 8 [0, 1, 2, 3, 4, 5, 6, 7] rfl rfl rfl rfl rfl (by exact ⟨nM rfl, nQ rfl (by exact qr (jv rfl) rfl), nQ rfl (by exact qr (zX rfl Tryd.runUnderlying52 rfl Tryd.sizeOf47 rfl) rfl), nQ rfl (by exact qr (x4 3 rfl YY rfl ([qf YC.Window_.text_, .int .i64 YC.Window_.base_]) rfl rfl Tryd.isAgg47 Tryd.sizeOf47) rfl), nM rfl, nQ rfl (by exact qr (yb rfl Tryd.runUnderlying55 Tryd.runUnderlying3) rfl), nM rfl, nQ rfl (by exact qr (yb rfl Tryd.runUnderlying55 Tryd.runUnderlying3) rfl), trivial⟩) fun D l a w ho hcl hav hpre hm hE hk hA hst => ?_
    have hS := (Ss.mk hE hst).env2 (e' := [(51, .int .i64 (wr .i64 YG))]) ⟨rfl, trivial⟩
    refine qt rfl <| qm hS rfl Tryd.call32 (xy hG K (wr .i64 YG) (hS.st.part 0 [0, 1, 2, 3, 4, 5] (by kernel_rfl)) (qe hM) (fun Jr w hM  hst => qk hS.ev hst.appF rfl fun hS => ?_))
    replace hS : Ss _ _ _ H [JD, YV, Y2, YT, YR, YS] F _ _ := hS
    refine qs ?_
    replace hst := hS.st
    obtain ⟨hcl, hmust, hav2, hA⟩ := dn (vals' := [some (qy YE 0), some (qy YE 0), some (qy YE 0), some (.agg ⟨[qf YC.Window_.text_, .int .i64 YC.Window_.base_]⟩), some (.int .u64 YD), some (.int .i64 (wr .i64 YD)), some (.int .u64 YG), some (.int .i64 (wr .i64 YG)), some (.int .i64 Jr), none, none, none, none, some (qy Jc 0), none, none]) 8 [(7, 8), (6, 7)] hA hcl hav hm hpre hk rfl rfl rfl rfl rfl rfl rfl
    clear hm hav
    refine yc hA hst ho hcl hav2 hmust 9 [0, 1, 2, 3, 4, 5] rfl rfl rfl rfl rfl (by exact ⟨nM rfl, nQ rfl (by exact qr (jv rfl) rfl), nQ rfl (by exact qr (zX rfl Tryd.runUnderlying52 rfl Tryd.sizeOf47 rfl) rfl), nQ rfl (by exact qr (x4 3 rfl YY rfl ([qf YC.Window_.text_, .int .i64 YC.Window_.base_]) rfl rfl Tryd.isAgg47 Tryd.sizeOf47) rfl), nM rfl, nQ rfl (by exact qr (yb rfl Tryd.runUnderlying55 Tryd.runUnderlying3) rfl), trivial⟩) fun D l a w ho hcl hav hpre hm hE hk hA hst => ?_
    have hS := (Ss.mk hE hst).env2 (e' := [(47, .agg ⟨[qf YC.Window_.text_, .int .i64 YC.Window_.base_]⟩), (49, .int .i64 (wr .i64 YD)), (52, .int .i64 Jr)]) ⟨rfl, rfl, rfl, trivial⟩
    refine qt rfl <| qm hS rfl Tryd.call24 (zp hG K YC.Window_ (wr .i64 YD) Jr (hS.st.part 0 [0, 1, 2, 3, 4, 5] (by kernel_rfl)) (qe hM) (fun YQ YN Y4 w hM  hst => qk hS.ev hst.appF rfl fun hS => ?_))
    replace hS : Ss _ _ _ H [JD, YV, Y2, YT, YR, YS] F _ _ := hS
    refine qs ?_
    replace hst := hS.st
    obtain ⟨hcl, hmust, hav2, hA⟩ := dn (vals' := [some (qy YE 0), some (qy YE 0), some (qy YE 0), some (.agg ⟨[qf YC.Window_.text_, .int .i64 YC.Window_.base_]⟩), some (.int .u64 YD), some (.int .i64 (wr .i64 YD)), some (.int .u64 YG), some (.int .i64 (wr .i64 YG)), some (.int .i64 Jr), some (.tuple ⟨[.agg ⟨[qf YQ, .int .i64 YN]⟩, .int .i64 Y4]⟩), some (.tuple ⟨[.agg ⟨[qf YQ, .int .i64 YN]⟩, .int .i64 Y4]⟩), some (.agg ⟨[qf YQ, .int .i64 YN]⟩), some (.int .i64 Y4), some (qy Jc 0), none, none]) 9 [(3, 9), (5, 9), (8, 9), (2, 3), (4, 5), (7, 8), (1, 2), (6, 7), (0, 1)] hA hcl hav hm hpre hk rfl rfl rfl rfl rfl rfl rfl
    clear hm hav
    refine yc hA hst ho hcl hav2 hmust 14 [10, 11, 12] rfl rfl rfl rfl rfl (by exact ⟨nM rfl, nQ rfl (by exact qr (ex rfl rfl) rfl), nQ rfl (by exact qr (ex rfl rfl) rfl), trivial⟩) fun D l a w ho hcl hav hpre hm hE hk hA hst => ?_
    have hS := (Ss.mk hE hst).env2 (e' := [(13, qy Jc 0), (54, .agg ⟨[qf YQ, .int .i64 YN]⟩)]) ⟨rfl, rfl, trivial⟩
    refine qt rfl <| vB 0 ([qf YQ, .int .i64 YN]) ([qf YQ, .int .i64 YN]) hS rfl rfl JO rfl rfl Tryd.sizeOf47 (by simp [Value.oneCell']) (Nat.le_of_ble_eq_true rfl) rfl fun w J8 JP hS => qs ?_
    replace hst := hS.st
    obtain ⟨hcl, hmust, hav2, hA⟩ := Xc (vals' := [some (qy YE 0), some (qy YE 0), some (qy YE 0), some (.agg ⟨[qf YC.Window_.text_, .int .i64 YC.Window_.base_]⟩), some (.int .u64 YD), some (.int .i64 (wr .i64 YD)), some (.int .u64 YG), some (.int .i64 (wr .i64 YG)), some (.int .i64 Jr), some (.tuple ⟨[.agg ⟨[qf YQ, .int .i64 YN]⟩, .int .i64 Y4]⟩), some (.tuple ⟨[.agg ⟨[qf YQ, .int .i64 YN]⟩, .int .i64 Y4]⟩), some (.agg ⟨[qf YQ, .int .i64 YN]⟩), some (.int .i64 Y4), some (qy Jc 0), some undef, some (.int .i64 Y4)]) 14 [(0, 14), (1, 14), (2, 14), (3, 14), (4, 14), (5, 14), (6, 14), (7, 14), (8, 14), (9, 14), (10, 14), (11, 14), (13, 14)] hA hcl hav hm hpre rfl rfl rfl rfl rfl
    clear hm hav
    refine xE hA hst ho hcl hmust [12, 15] rfl rfl rfl (by exact ⟨nQ rfl (by exact qr (ex rfl rfl) rfl), nA rfl, trivial⟩) fun a w hS => ?_
    replace hS := hS.env2 (e' := [(0, qy YE 0), (4, qy Jg 0), (6, qf YH), (7, .int .u64 Ja), (9, .int .u64 YD), (11, .int .u64 YG), (13, qy Jc 0), (14, .int .i64 Y4)]) ⟨rfl, rfl, rfl, rfl, rfl, rfl, rfl, rfl, trivial⟩
    refine qd ?_
    exact Jp _ _ ⟨Jc, YQ, YN, J8, Y4, hS.to [3, 4, 5, 1, 0] (by kernel_rfl) ⟨rfl, rfl, rfl, rfl, rfl, rfl, rfl, rfl, trivial⟩, JP, hM⟩
  ·intro a w hI
   obtain ⟨Jw, YF, YK, Y6, Y5, hS, Jo, hM⟩ := hI
   rw [qA.j1] at hM
   refine wp_seq <| qg <| sM hS rfl fun hS => sB hS rfl fun hS => qs <| qH hS rfl hM (fun JW hM => ?_) (fun JW hM => ?_)
   ·refine wp_seq ?_
    refine zH <| sO hS (ug ([qf ([] : List UInt8), qf ([] : List UInt8)]) [(0, 1), (1, 1)] Tryd.zeroValue36 Tryd.runUnderlying36 (by intro w; simp [Tryd.sizeOf9]) rfl rfl) rfl fun hS => sM hS rfl fun hS => vB 3 ([qf ([] : List UInt8), qf ([] : List UInt8)]) ([qf ([] : List UInt8), qf ([] : List UInt8)]) hS rfl rfl Y0 rfl rfl Tryd.sizeOf36 (by simp [Value.oneCell']) (Nat.le_of_ble_eq_true rfl) rfl fun w Ve JQ hS => sA hS rfl fun hS => qs <| wp_ret <| qo ?_
    exact ya (vs := [.agg ⟨[qf ([] : List UInt8), qf ([] : List UInt8)]⟩, .int .i64 Y5]) hS rfl (by exact ⟨ZD 3 ([qf ([] : List UInt8), qf ([] : List UInt8)]) rfl JQ rfl rfl rfl Tryd.isAgg36 Tryd.sizeOf36, ZZ rfl, trivial⟩) (hret ([] : List UInt8) ([] : List UInt8) Y5 Jb Jd YC.claims_.items_ YS YR _ (qD hM) Y8 Y7 (hS.st.pick [0, 1, 2] (by kernel_rfl)))
   ·refine wp_skip ?_
    refine qd <| qg <| sO hS (x4 4 rfl Jo rfl ([qf YF, .int .i64 YK]) rfl rfl Tryd.isAgg47 Tryd.sizeOf47) rfl fun hS => qm hS rfl Tryd.call27 (zG hG K (qp.mk YF YK) (hS.st.part 0 [0, 1, 2, 3, 4] (by kernel_rfl)) (qe hM) (fun  w hM  hst => qk hS.ev hst.appF rfl fun hS => ?_))
    replace hS : Ss _ _ _ H [YT, YR, YS, YV, Y6] F _ _ := hS
    refine sM hS rfl fun hS => ?_
    obtain ⟨J2, hM⟩ := qI hM
    refine sO hS (Xr rfl Tryd.runUnderlying9 Xx (Xd rfl) J2) rfl fun hS => zd (v := qf) (x0 := (sub YF (0 : Int) YG)) hS (zW rfl) rfl fun YO a w hz hS => ?_
    have hM := qK hz hM; clear hz
    refine qs <| wp_seq <| qg <| sO hS (x4 4 rfl Jo rfl ([qf YF, .int .i64 YK]) rfl rfl Tryd.isAgg47 Tryd.sizeOf47) rfl fun hS => qm hS rfl Tryd.call27 (zG hG K (qp.mk YF YK) (hS.st.part 0 [0, 1, 2, 3, 4] (by kernel_rfl)) (qe hM) (fun  w hM  hst => qk hS.ev hst.appF rfl fun hS => ?_))
    replace hS : Ss _ _ _ H [YT, YR, YS, YV, Y6] F _ _ := hS
    refine sM hS rfl fun hS => ?_
    obtain ⟨J3, hM⟩ := qI hM
    refine sO hS (Xr rfl Tryd.runUnderlying9 (Zb rfl) ZB J3) rfl fun hS => qm hS rfl Tryd.call53 (y3 hG K (sub YF YG (YF.length : Int)) (hS.st.part 0 [0, 1, 2, 3, 4] (by kernel_rfl)) (qe hM) (fun Vm w hM  hst => qk hS.ev hst.appF rfl fun hS => ?_))
    replace hS : Ss _ _ _ H [YT, YR, YS, YV, Y6] F _ _ := hS
    refine sO hS (vT rfl rfl rfl) rfl fun hS => qs <| qH hS rfl hM (fun JX hM => ?_) (fun JX hM => ?_)
    ·refine wp_seq ?_
     refine zH <| sO hS (ug ([qf ([] : List UInt8), qf ([] : List UInt8)]) [(0, 1), (1, 1)] Tryd.zeroValue36 Tryd.runUnderlying36 (by intro w; simp [Tryd.sizeOf9]) rfl rfl) rfl fun hS => vB 3 ([qf ([] : List UInt8), qf ([] : List UInt8)]) ([qf ([] : List UInt8), qf ([] : List UInt8)]) hS rfl rfl Y0 rfl rfl Tryd.sizeOf36 (by simp [Value.oneCell']) (Nat.le_of_ble_eq_true rfl) rfl fun w Vf JR hS => sA hS rfl fun hS => qs <| wp_ret <| qo ?_
     exact ya (vs := [.agg ⟨[qf ([] : List UInt8), qf ([] : List UInt8)]⟩, .int .i64 (3 : Int)]) hS rfl (by exact ⟨ZD 3 ([qf ([] : List UInt8), qf ([] : List UInt8)]) rfl JR rfl rfl rfl Tryd.isAgg36 Tryd.sizeOf36, ZZ rfl, trivial⟩) (hret ([] : List UInt8) ([] : List UInt8) (3 : Int) Jb Jd YC.claims_.items_ YS YR _ (qD hM) Y8 Y7 (hS.st.pick [0, 1, 2] (by kernel_rfl)))
    ·refine wp_skip ?_
     refine qd <| zn (fun a w => ∃ (Jl : Option Addr) (Jn : Nat) (YU : (List qa)) (Ji : qi) (Jj : qi), Ss 99 [] [(4, qy Jg 0), (6, qf YH), (7, .int .u64 Ja), (15, qf YO)] H [YT, Jj, Ji, YV] F a w ∧ (z5 93 qa.cells 3 Jl YU Jn Ji) ∧ (yy Jj Y1 ([.slice Jl YU.length Jn]) 87) ∧ (qA.j2 K YH Ja YO YU).wp kr kp) (fun Va Ju => ?_) ?_
     ·refine wp_seq ?_
      refine zH <| sM hS rfl fun hS => sB hS rfl fun hS => qs <| qH hS rfl hM (fun JY hM => ?_) (fun JY hM => ?_)
      ·refine wp_seq ?_
       refine q8 (vals := [some (qy YE 0), some (qy YE 0), some (qy YE 2), some (qy Y1 0), some (.int .u64 YD), some (.int .i64 (wr .i64 YD)), some (.int .u64 YD), some (.int .i64 (wr .i64 YD)), some (.agg ⟨[qf YF, .int .i64 YK]⟩), none, none, some (qf YH), none, none]) hS xr rfl ?_
       intro l w ho hcl hA hst
       refine yc hA hst ho hcl xd xv 9 [0, 1, 2, 3, 4, 5, 6, 7, 8, 11] rfl rfl rfl rfl rfl (by exact ⟨nM rfl, nQ rfl (by exact qr (jv rfl) rfl), nQ rfl (by exact qr (zX rfl Tryd.runUnderlying52 rfl Tryd.sizeOf49 rfl) rfl), nQ rfl (by exact qr (xi 0 rfl YY rfl rfl Tryd.isAgg49) rfl), nM rfl, nQ rfl (by exact qr (yb rfl Tryd.runUnderlying55 Tryd.runUnderlying3) rfl), nM rfl, nQ rfl (by exact qr (yb rfl Tryd.runUnderlying55 Tryd.runUnderlying3) rfl), nQ rfl (by exact qr (x4 4 rfl Jo rfl ([qf YF, .int .i64 YK]) rfl rfl Tryd.isAgg47 Tryd.sizeOf47) rfl), nM rfl, trivial⟩) fun D l a w ho hcl hav hpre hm hE hk hA hst => ?_
       have hS := (Ss.mk hE hst).env2 (e' := [(81, .agg ⟨[qf YF, .int .i64 YK]⟩)]) ⟨rfl, trivial⟩
       refine qt rfl <| qm hS rfl Tryd.call54 (jL hG K (qp.mk YF YK) (hS.st.part 0 [0, 1, 2, 3, 4] (by kernel_rfl)) (qe hM) (fun Jk w hM  hst => qk hS.ev hst.appF rfl fun hS => ?_))
       replace hS : Ss _ _ _ H [YT, YR, YS, YV, Y6] F _ _ := hS
       refine qs ?_
       replace hst := hS.st
       obtain ⟨hcl, hmust, hav2, hA⟩ := dn (vals' := [some (qy YE 0), some (qy YE 0), some (qy YE 2), some (qy Y1 0), some (.int .u64 YD), some (.int .i64 (wr .i64 YD)), some (.int .u64 YD), some (.int .i64 (wr .i64 YD)), some (.agg ⟨[qf YF, .int .i64 YK]⟩), some (.int .i64 Jk), some (.int .i64 (qC ((wr .i64 YD) + Jk))), some (qf YH), none, none]) 9 [(8, 9)] hA hcl hav hm hpre hk rfl rfl rfl rfl rfl rfl rfl
       clear hm hav
       refine yc hA hst ho hcl hav2 hmust 12 [0, 1, 2, 3, 4, 5, 6, 7, 10, 11] rfl rfl rfl rfl rfl (by exact ⟨nM rfl, nQ rfl (by exact qr (jv rfl) rfl), nQ rfl (by exact qr (zX rfl Tryd.runUnderlying52 rfl Tryd.sizeOf49 rfl) rfl), nQ rfl (by exact qr (xi 0 rfl YY rfl rfl Tryd.isAgg49) rfl), nM rfl, nQ rfl (by exact qr (yb rfl Tryd.runUnderlying55 Tryd.runUnderlying3) rfl), nM rfl, nQ rfl (by exact qr (yb rfl Tryd.runUnderlying55 Tryd.runUnderlying3) rfl), nB rfl, nM rfl, trivial⟩) fun D l a w ho hcl hav hpre hm hE hk hA hst => ?_
       have hS := (Ss.mk hE hst).env2 (e' := [(76, qy Y1 0), (78, .int .i64 (wr .i64 YD)), (83, .int .i64 (qC ((wr .i64 YD) + Jk))), (84, qf YH)]) ⟨rfl, rfl, rfl, rfl, trivial⟩
       refine qt rfl <| qm hS rfl Tryd.call29 (xb hG K YC.claims_ (wr .i64 YD) (qC ((wr .i64 YD) + Jk)) YH Y1 YR Jb Jd YS Y7 Y8 (hS.st.part 2 [1, 2, 0, 3, 4] (by kernel_rfl)) (qe hM) (fun Js Jz JB Y9 Jx Jy w hM JG JH hst => qk hS.ev hst.appF rfl fun hS => ?_))
       replace hS : Ss _ _ _ H [Jy, Jx, YT, YV, Y6] F _ _ := hS
       refine qs ?_
       replace hst := hS.st
       obtain ⟨hcl, hmust, hav2, hA⟩ := dn (vals' := [some (qy YE 0), some (qy YE 0), some (qy YE 2), some (qy Y1 0), some (.int .u64 YD), some (.int .i64 (wr .i64 YD)), some (.int .u64 YD), some (.int .i64 (wr .i64 YD)), some (.agg ⟨[qf YF, .int .i64 YK]⟩), some (.int .i64 Jk), some (.int .i64 (qC ((wr .i64 YD) + Jk))), some (qf YH), some (.int .i64 Js), some (.int .i64 Js)]) 12 [(3, 12), (5, 12), (9, 12), (10, 12), (11, 12), (2, 3), (4, 5), (8, 9), (7, 10), (1, 2), (6, 7), (0, 1)] hA hcl hav hm hpre hk rfl rfl rfl rfl rfl rfl rfl
       clear hm hav
       refine xE hA hst ho hcl hmust [13] rfl rfl rfl (by exact ⟨nA rfl, trivial⟩) fun a w hS => ?_
       replace hS := hS.env2 (e' := [(4, qy Jg 0), (6, qf YH), (7, .int .u64 Ja), (15, qf YO), (16, .int .i64 Js)]) ⟨rfl, rfl, rfl, rfl, rfl, trivial⟩
       refine qd <| qg <| sM hS rfl fun hS => sB hS rfl fun hS => qs <| qH hS rfl hM (fun JZ hM => ?_) (fun JZ hM => ?_)
       ·refine wp_seq ?_
        refine zH <| sO hS (ug ([qf ([] : List UInt8), qf ([] : List UInt8)]) [(0, 1), (1, 1)] Tryd.zeroValue36 Tryd.runUnderlying36 (by intro w; simp [Tryd.sizeOf9]) rfl rfl) rfl fun hS => sM hS rfl fun hS => vB 3 ([qf ([] : List UInt8), qf ([] : List UInt8)]) ([qf ([] : List UInt8), qf ([] : List UInt8)]) hS rfl rfl Y0 rfl rfl Tryd.sizeOf36 (by simp [Value.oneCell']) (Nat.le_of_ble_eq_true rfl) rfl fun w Vg JS hS => sA hS rfl fun hS => qs <| wp_ret <| qo ?_
        exact ya (vs := [.agg ⟨[qf ([] : List UInt8), qf ([] : List UInt8)]⟩, .int .i64 Js]) hS rfl (by exact ⟨ZD 3 ([qf ([] : List UInt8), qf ([] : List UInt8)]) rfl JS rfl rfl rfl Tryd.isAgg36 Tryd.sizeOf36, ZZ rfl, trivial⟩) (hret ([] : List UInt8) ([] : List UInt8) Js Jz JB Y9 Jx Jy _ (qD hM) JG JH (hS.st.pick [2, 0, 1] (by kernel_rfl)))
       ·refine wp_skip ?_
        refine qd ?_
        exact Ju _ _ ⟨Jz, JB, Y9, Jx, Jy, hS.to [2, 0, 1, 3] (by kernel_rfl) ⟨rfl, rfl, rfl, rfl, trivial⟩, JG, JH, hM⟩
      ·refine wp_skip ?_
       refine qd ?_
       exact Ju _ _ ⟨Jb, Jd, YC.claims_.items_, YS, YR, hS.to [0, 1, 2, 3] (by kernel_rfl) ⟨rfl, rfl, rfl, rfl, trivial⟩, Y8, Y7, hM⟩
     ·intro a w hI
      obtain ⟨Jl, Jn, YU, Ji, Jj, hS, Jv, Jt, hM⟩ := hI
      rw [qA.j2] at hM
      refine wp_seq <| qg <| sM hS rfl fun hS => qm hS rfl Tryd.call16 (ju hG K YO (hS.st.part 0 [0, 1, 2, 3] (by kernel_rfl)) (qe hM) (fun Vn w hM  hst => qk hS.ev hst.appF rfl fun hS => ?_))
      replace hS : Ss _ _ _ H [YT, Jj, Ji, YV] F _ _ := hS
      refine sM hS rfl fun hS => sO hS (yb rfl Tryd.runUnderlying55 Tryd.runUnderlying23) rfl fun hS => sB hS rfl fun hS => qs <| qH hS rfl hM (fun J0 hM => ?_) (fun J0 hM => ?_)
      ·refine wp_seq ?_
       refine zH <| sO hS (ug ([qf ([] : List UInt8), qf ([] : List UInt8)]) [(0, 1), (1, 1)] Tryd.zeroValue36 Tryd.runUnderlying36 (by intro w; simp [Tryd.sizeOf9]) rfl rfl) rfl fun hS => vB 3 ([qf ([] : List UInt8), qf ([] : List UInt8)]) ([qf ([] : List UInt8), qf ([] : List UInt8)]) hS rfl rfl Y0 rfl rfl Tryd.sizeOf36 (by simp [Value.oneCell']) (Nat.le_of_ble_eq_true rfl) rfl fun w Vh JT hS => sA hS rfl fun hS => qs <| wp_ret <| qo ?_
       exact ya (vs := [.agg ⟨[qf ([] : List UInt8), qf ([] : List UInt8)]⟩, .int .i64 (4 : Int)]) hS rfl (by exact ⟨ZD 3 ([qf ([] : List UInt8), qf ([] : List UInt8)]) rfl JT rfl rfl rfl Tryd.isAgg36 Tryd.sizeOf36, ZZ rfl, trivial⟩) (hret ([] : List UInt8) ([] : List UInt8) (4 : Int) Jl Jn YU Ji Jj _ (qD hM) Jv Jt (hS.st.pick [0, 1, 2] (by kernel_rfl)))
      ·refine wp_skip ?_
       refine qd <| qg <| sM hS rfl fun hS => sM hS rfl fun hS => sO hS (ug ([qf YH, qf YO]) [(0, 1), (1, 1)] Tryd.zeroValue36 Tryd.runUnderlying36 (by intro w; simp [Tryd.sizeOf9]) rfl rfl) rfl fun hS => vB 3 ([qf YH, qf YO]) ([qf YH, qf YO]) hS rfl rfl Y0 rfl rfl Tryd.sizeOf36 (by simp [Value.oneCell']) (Nat.le_of_ble_eq_true rfl) rfl fun w Vi JU hS => sA hS rfl fun hS => qs <| wp_ret ?_
       exact ya (vs := [.agg ⟨[qf YH, qf YO]⟩, .int .i64 (0 : Int)]) hS rfl (by exact ⟨ZD 3 ([qf YH, qf YO]) rfl JU rfl rfl rfl Tryd.isAgg36 Tryd.sizeOf36, ZZ rfl, trivial⟩) (hret YH YO (0 : Int) Jl Jn YU Ji Jj _ (qD hM) Jv Jt (hS.st.pick [0, 1, 2] (by kernel_rfl)))
theorem yO {H : zm} {F : List qi} {w : World} {R : Ending → World → Prop} {kr : (Int × (List qc) × Int) → Prop} {kp : Value → Prop} (hG : Gl H) (K : Nat) (YO : List UInt8)
    (hS : St w H [] F) (hm : (qV.m K YO).wp kr kp)
    (hret : ∀ (Jr : Int) (Jl : Option Addr) (Jm : Nat) (Je : (List qc)) (Jn : qi) (Js : Int) (w : World), kr (Jr, Je, Js) → (z5 36 qc.cells 2 Jl Je Jm Jn) → St w H [Jn] F → R (.returned (.tuple ⟨[.int .u32 Jr, .slice Jl Je.length Jm, .int .i64 Js]⟩)) w) :
    Calls Tryd.prog 10 ⟨[qf YO]⟩ w R := by
 refine enter Tryd.func10 rfl Tryd.ntmps10 rfl hS fun a w hS => ?_
 have hM := hm; clear hm
 rw [qV.m] at hM
 refine qg <| sA hS rfl fun hS => sA hS rfl fun hS => ?_
 obtain ⟨YW, VE, hS⟩ := hS.nilV 36 qc.cells 2
 refine sA hS rfl fun hS => qs <| qg <| sM hS rfl fun hS => qm hS rfl Tryd.call22 (Zx hG K YO (hS.st.part 0 [0] (by kernel_rfl)) (qe hM) (fun  w hM  hst => qk hS.ev hst.appF rfl fun hS => ?_))
 replace hS : Ss _ _ _ H [YW] F _ _ := hS
 refine qm hS rfl Tryd.call23 (yA hG K  (hS.st.part 0 [0] (by kernel_rfl)) (qe hM) (fun Y8 YR YS w hM Vn Vo hst => qk hS.ev hst.appF rfl fun hS => ?_))
 replace hS : Ss _ _ _ H [YS, YR, YW] F _ _ := hS
 refine sO hS (ug ([qf YO, .int .i64 (0 : Int), qy Y8 0]) [(0, 2), (2, 1)] Tryd.zeroValue52 Tryd.runUnderlying52 (by intro w; simp [Tryd.sizeOf47, Tryd.sizeOf49]) rfl rfl) rfl fun hS => bx ([qf YO, .int .i64 (0 : Int), qy Y8 0]) hS rfl rfl rfl fun w Jt YJ Y7 hS => sA hS rfl fun hS => qs <| qg <| sM hS rfl fun hS => sO hS (jv rfl) rfl fun hS => sO hS (zX rfl Tryd.runUnderlying52 rfl Tryd.sizeOf47 rfl) rfl fun hS => sO hS (x4 0 rfl Y7 rfl ([qf YO, .int .i64 (0 : Int)]) rfl rfl Tryd.isAgg47 Tryd.sizeOf47) rfl fun hS => qm hS rfl Tryd.call24 (zp hG K (qp.mk YO (0 : Int)) (0 : Int) (12 : Int) (hS.st.part 0 [0, 1, 2, 3] (by kernel_rfl)) (qe hM) (fun YC YD Vt w hM  hst => qk hS.ev hst.appF rfl fun hS => ?_))
 replace hS : Ss _ _ _ H [YJ, YS, YR, YW] F _ _ := hS
 refine sM hS rfl fun hS => sO hS (ex rfl rfl) rfl fun hS => sO hS (ex rfl rfl) rfl fun hS => ub ([qf ([] : List UInt8), .int .i64 (0 : Int)]) hS Tryd.zeroValue47 rfl rfl fun w VG VJ JT hS => vB 0 ([qf YC, .int .i64 YD]) ([qf YC, .int .i64 YD]) hS rfl rfl JT rfl rfl Tryd.sizeOf47 (by simp [Value.oneCell']) (Nat.le_of_ble_eq_true rfl) rfl fun w Y9 Ja hS => sA hS rfl fun hS => qs <| wp_seq <| qg <| sM hS rfl fun hS => sB hS rfl fun hS => qs <| qH hS rfl hM (fun J4 hM => ?_) (fun J4 hM => ?_)
 ·refine wp_seq ?_
  refine zH <| sM hS rfl fun hS => sA hS rfl fun hS => sA hS rfl fun hS => ?_
  obtain ⟨Vi, JY, hS⟩ := hS.nilV 36 qc.cells 2
  refine sA hS rfl fun hS => qs <| wp_ret <| qo ?_
  exact qN (rs := [2, 3, 4]) hS rfl rfl (hret (0 : Int) none (0) ([] : List qc) Vi Vt _ (qD hM) JY (hS.st.pick [0] (by kernel_rfl)))
 ·refine wp_skip ?_
  refine qd <| qg <| sO hS (x4 0 rfl Ja rfl ([qf YC, .int .i64 YD]) rfl rfl Tryd.isAgg47 Tryd.sizeOf47) rfl fun hS => qm hS rfl Tryd.call25 (zk hG K (qp.mk YC YD) (0 : Int) (4 : Int) (hS.st.part 0 [0, 1, 2, 3, 4] (by kernel_rfl)) (qe hM) (fun YV VN w hM  hst => qk hS.ev hst.appF rfl fun hS => ?_))
  replace hS : Ss _ _ _ H [Y9, YJ, YS, YR, YW] F _ _ := hS
  refine sM hS rfl fun hS => sO hS (ex rfl rfl) rfl fun hS => sO hS (ex rfl rfl) rfl fun hS => sA hS rfl fun hS => sA hS rfl fun hS => qs <| qg <| sO hS (x4 0 rfl Ja rfl ([qf YC, .int .i64 YD]) rfl rfl Tryd.isAgg47 Tryd.sizeOf47) rfl fun hS => qm hS rfl Tryd.call25 (zk hG K (qp.mk YC YD) (4 : Int) (2 : Int) (hS.st.part 0 [0, 1, 2, 3, 4] (by kernel_rfl)) (qe hM) (fun Vu VO w hM  hst => qk hS.ev hst.appF rfl fun hS => ?_))
  replace hS : Ss _ _ _ H [Y9, YJ, YS, YR, YW] F _ _ := hS
  refine sM hS rfl fun hS => sO hS (ex rfl rfl) rfl fun hS => sO hS (ex rfl rfl) rfl fun hS => sA hS rfl fun hS => sA hS rfl fun hS => qs <| qg <| sM hS rfl fun hS => sO hS (yb rfl Tryd.runUnderlying55 Tryd.runUnderlying3) rfl fun hS => zd (v := Value.int .i64) (x0 := (wr .i64 Vu)) hS (zW rfl) rfl fun YG a w hz hS => ?_
  have hM := qK hz hM; clear hz
  refine qs <| wp_seq <| qg <| sM hS rfl fun hS => sO hS (yb rfl Tryd.runUnderlying55 Tryd.runUnderlying23) rfl fun hS => qm hS rfl Tryd.call26 (y5 hG K (wr .u32 YV) (hS.st.part 0 [0, 1, 2, 3, 4] (by kernel_rfl)) (qe hM) (fun JI w hM  hst => qk hS.ev hst.appF rfl fun hS => ?_))
  replace hS : Ss _ _ _ H [Y9, YJ, YS, YR, YW] F _ _ := hS
  refine sO hS (un rfl rfl) rfl fun hS => sM hS rfl fun hS => z6 2 false 55 (b := (!JI)) (r := (decide (YG < (1 : Int)))) hS rfl rfl rfl rfl rfl rfl rfl (fun hb a w hS K hK => ?_) rfl fun a w hS => ?_
  ·refine qG hS rfl rfl rfl hb (mv rfl) rfl fun a w hS => ?_
   refine qG hS rfl rfl rfl hb (xD rfl rfl rfl) rfl fun a w hS => ?_
   exact qZ (hK _ _ (hS.up 2 rfl rfl))
  refine sM hS rfl fun hS => z6 2 false 59 (b := ((!JI) || (decide (YG < (1 : Int))))) (r := (decide (YG > (1000 : Int)))) hS rfl rfl rfl rfl rfl rfl rfl (fun hb a w hS K hK => ?_) rfl fun a w hS => ?_
  ·refine qG hS rfl rfl rfl hb (mv rfl) rfl fun a w hS => ?_
   refine qG hS rfl rfl rfl hb (xD rfl rfl rfl) rfl fun a w hS => ?_
   exact qZ (hK _ _ (hS.up 2 rfl rfl))
  refine sM hS rfl fun hS => xx (fun a w => ∃ (JH : Bool), Ss 142 [] [(5, qy Jt 0), (8, .int .u64 YV), (12, .int .i64 YG), (71, .bool JH)] H [YJ, YS, YR] F a w ∧ (qV.j1 K YO YV YG JH).wp kr kp) 8 (fun VF Jp => ?_) ?_
  ·refine u2 (b := (((!JI) || (decide (YG < (1 : Int)))) || (decide (YG > (1000 : Int))))) hM (fun YX hM => ?_) (fun YX hM => ?_)
   ·replace hS := hS.re 62 (v := .bool true) rfl (congrArg Value.bool YX)
    replace hS := hS.re 63 (v := .bool true) rfl (congrArg Value.bool YX)
    refine jr 7 hS rfl fun a w hS => sO hS (pk rfl rfl rfl) rfl fun hS => qZ <| qd ?_
    exact Jp _ _ ⟨true, hS.to [1, 2, 3] (by kernel_rfl) ⟨rfl, rfl, rfl, rfl, trivial⟩, hM⟩
   ·replace hS := hS.re 62 (v := .bool false) rfl (congrArg Value.bool YX)
    replace hS := hS.re 63 (v := .bool false) rfl (congrArg Value.bool YX)
    refine qG hS rfl rfl rfl rfl (x4 0 rfl Ja rfl ([qf YC, .int .i64 YD]) rfl rfl Tryd.isAgg47 Tryd.sizeOf47) rfl fun a w hS => xA hS rfl rfl rfl rfl <| qm hS rfl Tryd.call27 (zG hG K (qp.mk YC YD) (hS.st.part 0 [0, 1, 2, 3, 4] (by kernel_rfl)) (qe hM) (fun  w hM  hst => qk hS.ev hst.appF rfl fun hS => ?_))
    replace hS : Ss _ _ _ H [Y9, YJ, YS, YR, YW] F _ _ := hS
    refine qG hS rfl rfl rfl rfl (mv rfl) rfl fun a w hS => qG hS rfl rfl rfl rfl (yb rfl Tryd.runUnderlying55 Tryd.runUnderlying23) rfl fun a w hS => qG hS rfl rfl rfl rfl (mv rfl) rfl fun a w hS => xA hS rfl rfl rfl rfl <| qm hS rfl Tryd.call28 (jS hG K (wr .u32 YV) YG (hS.st.part 0 [0, 1, 2, 3, 4] (by kernel_rfl)) (qe hM) (fun Vv w hM  hst => qk hS.ev hst.appF rfl fun hS => ?_))
    replace hS : Ss _ _ _ H [Y9, YJ, YS, YR, YW] F _ _ := hS
    refine qG hS rfl rfl rfl rfl (vT rfl rfl rfl) rfl fun a w hS => sO hS (pk rfl rfl rfl) rfl fun hS => qZ <| qd ?_
    exact Jp _ _ ⟨(!(YC == Vv)), hS.to [1, 2, 3] (by kernel_rfl) ⟨rfl, rfl, rfl, rfl, trivial⟩, hM⟩
  ·intro a w hI
   obtain ⟨JH, hS, hM⟩ := hI
   rw [qV.j1] at hM
   refine qs <| qH hS rfl hM (fun J5 hM => ?_) (fun J5 hM => ?_)
   ·refine wp_seq ?_
    refine zH <| sA hS rfl fun hS => sA hS rfl fun hS => ?_
    obtain ⟨Vj, JZ, hS⟩ := hS.nilV 36 qc.cells 2
    refine sA hS rfl fun hS => qs <| wp_ret <| qo ?_
    exact qN (rs := [2, 3, 4]) hS rfl rfl (hret (0 : Int) none (0) ([] : List qc) Vj (3 : Int) _ (qD hM) JZ (hS.st.pick [0] (by kernel_rfl)))
   ·refine wp_skip ?_
    refine qd <| qg <| sM hS rfl fun hS => sO hS (jv rfl) rfl fun hS => sO hS (zX rfl Tryd.runUnderlying52 rfl Tryd.sizeOf47 rfl) rfl fun hS => sO hS (x4 0 rfl Y7 rfl ([qf YO, .int .i64 (0 : Int)]) rfl rfl Tryd.isAgg47 Tryd.sizeOf47) rfl fun hS => sM hS rfl fun hS => sB hS rfl fun hS => qm hS rfl Tryd.call24 (zp hG K (qp.mk YO (0 : Int)) (12 : Int) (qC ((16 : Int) * YG)) (hS.st.part 0 [0, 1, 2] (by kernel_rfl)) (qe hM) (fun YN YL Vw w hM  hst => qk hS.ev hst.appF rfl fun hS => ?_))
    replace hS : Ss _ _ _ H [YJ, YS, YR] F _ _ := hS
    refine sM hS rfl fun hS => sO hS (ex rfl rfl) rfl fun hS => sO hS (ex rfl rfl) rfl fun hS => ub ([qf ([] : List UInt8), .int .i64 (0 : Int)]) hS Tryd.zeroValue47 rfl rfl fun w Vf VK JU hS => vB 0 ([qf YN, .int .i64 YL]) ([qf YN, .int .i64 YL]) hS rfl rfl JU rfl rfl Tryd.sizeOf47 (by simp [Value.oneCell']) (Nat.le_of_ble_eq_true rfl) rfl fun w YZ JV hS => sA hS rfl fun hS => qs <| wp_seq <| qg <| sM hS rfl fun hS => sB hS rfl fun hS => qs <| qH hS rfl hM (fun J6 hM => ?_) (fun J6 hM => ?_)
    ·refine wp_seq ?_
     refine zH <| sM hS rfl fun hS => sA hS rfl fun hS => sA hS rfl fun hS => ?_
     obtain ⟨Vk, J0, hS⟩ := hS.nilV 36 qc.cells 2
     refine sA hS rfl fun hS => qs <| wp_ret <| qo ?_
     exact qN (rs := [2, 3, 4]) hS rfl rfl (hret (0 : Int) none (0) ([] : List qc) Vk Vw _ (qD hM) J0 (hS.st.pick [0] (by kernel_rfl)))
    ·refine wp_skip ?_
     refine qd <| qg <| sM hS rfl fun hS => sO hS (jv rfl) rfl fun hS => sO hS (zX rfl Tryd.runUnderlying52 rfl Tryd.sizeOf49 rfl) rfl fun hS => sO hS (xi 1 rfl Y7 rfl rfl Tryd.isAgg49) rfl fun hS => sM hS rfl fun hS => sB hS rfl fun hS => sB hS rfl fun hS => qm hS rfl Tryd.call29 (xb hG K (qz.mk ([] : List qa)) (0 : Int) (qC ((12 : Int) + (qC ((16 : Int) * YG)))) ([] : List UInt8) Y8 YS none (0) YR Vo Vn (hS.st.part 2 [2, 3, 0, 1] (by kernel_rfl)) (qe hM) (fun VP Vd Vg Jb JR JS w hM Vp Vq hst => qk hS.ev hst.appF rfl fun hS => ?_))
     replace hS : Ss _ _ _ H [JS, JR, YZ, YJ] F _ _ := hS
     refine qs <| qg <| sA hS rfl fun hS => ?_
     obtain ⟨Vl, J1, hS⟩ := hS.nilV 36 qc.cells 2
     refine qs <| qg <| sA hS rfl fun hS => sA hS rfl fun hS => qs <| zn (fun a w => ∃ (Y4 : Option Addr) (Y5 : Nat) (YQ : (List qc)) (Y6 : qi) (YT : Int), Ss 142 [] [(8, .int .u64 YV), (14, .slice Y4 YQ.length Y5), (15, .int .i64 YT)] H [Y6] F a w ∧ (z5 36 qc.cells 2 Y4 YQ Y5 Y6) ∧ (qV.j3 K YV YQ YT).wp kr kp) (fun VB Jy => ?_) ?_
     ·refine wp_seq ?_
      refine zH <| sM hS rfl fun hS => sM hS rfl fun hS => qs <| ye <| zu (fun Va a w => ∃ (Jf : Option Addr) (Ji : Nat) (YH : (List qa)) (Y0 : qi) (Y1 : qi) (Jg : Option Addr) (Jj : Nat) (YY : (List qc)) (YU : qi) (YP : Int) (YM : List UInt8) (Jd : Int), Ss 142 [] [(5, qy Jt 0), (8, .int .u64 YV), (13, qy Vf 0), (14, .slice Jg YY.length Jj), (15, .int .i64 YP), (16, qf YM), (93, .int .i64 YG), (94, .int .i64 Jd)] H [YJ, Y1, Y0, YZ, YU] F a w ∧ (z5 93 qa.cells 3 Jf YH Ji Y0) ∧ (yy Y1 Y8 ([.slice Jf YH.length Ji]) 87) ∧ (z5 36 qc.cells 2 Jg YY Jj YU) ∧ (qV.l2 K YO YV YG YN YL Va YH YY YP YM Jd).wp kr kp) K ?_ ?_ ?_
      ·exact ⟨Vd, Vg, Jb, JR, JS, none, 0, ([] : List qc), Vl, (0 : Int), ([] : List UInt8), (0 : Int), hS.to [4, 1, 2, 3, 0] (by kernel_rfl) ⟨rfl, rfl, rfl, rfl, rfl, rfl, rfl, rfl, trivial⟩, Vp, Vq, J1, hM⟩
      ·intro a w hI; obtain ⟨_, _, _, _, _, _, _, _, _, _, _, _, _, _, _, _, hM⟩ := hI; exact zq hM
      ·intro Va a w hI VA Jx
       obtain ⟨Jf, Ji, YH, Y0, Y1, Jg, Jj, YY, YU, YP, YM, Jd, hS, J2, JW, Jq, hM⟩ := hI
       rw [qV.l2] at hM
       refine qg <| sB hS rfl fun hS => qs <| wp_seq <| qH hS rfl hM (fun J7 hM => ?_) (fun J7 hM => ?_)
       ·refine wp_skip ?_
        refine qd <| wp_seq <| ye <| qg <| sM hS rfl fun hS => sA hS rfl fun hS => qs <| qg <| sO hS (x4 3 rfl JV rfl ([qf YN, .int .i64 YL]) rfl rfl Tryd.isAgg47 Tryd.sizeOf47) rfl fun hS => sM hS rfl fun hS => sB hS rfl fun hS => qm hS rfl Tryd.call24 (zp hG K (qp.mk YN YL) (qC ((16 : Int) * Jd)) (16 : Int) (hS.st.part 0 [0, 1, 2, 3, 4] (by kernel_rfl)) (qe hM) (fun YF YI VQ w hM  hst => qk hS.ev hst.appF rfl fun hS => ?_))
        replace hS : Ss _ _ _ H [YJ, Y1, Y0, YZ, YU] F _ _ := hS
        refine sM hS rfl fun hS => sO hS (ex rfl rfl) rfl fun hS => sO hS (ex rfl rfl) rfl fun hS => ub ([qf ([] : List UInt8), .int .i64 (0 : Int)]) hS Tryd.zeroValue47 rfl rfl fun w VH VL JX hS => vB 0 ([qf YF, .int .i64 YI]) ([qf YF, .int .i64 YI]) hS rfl rfl JX rfl rfl Tryd.sizeOf47 (by simp [Value.oneCell']) (Nat.le_of_ble_eq_true rfl) rfl fun w Jk Jo hS => sA hS rfl fun hS => qs <| wp_seq <| qg <| sO hS (x4 0 rfl Jo rfl ([qf YF, .int .i64 YI]) rfl rfl Tryd.isAgg47 Tryd.sizeOf47) rfl fun hS => qm hS rfl Tryd.call27 (zG hG K (qp.mk YF YI) (hS.st.part 0 [0, 1, 2, 3, 4, 5] (by kernel_rfl)) (qe hM) (fun  w hM  hst => qk hS.ev hst.appF rfl fun hS => ?_))
        replace hS : Ss _ _ _ H [Jk, YJ, Y1, Y0, YZ, YU] F _ _ := hS
        obtain ⟨J9, hM⟩ := qI hM
        refine sO hS (Xr rfl Tryd.runUnderlying9 Xx (Xd rfl) J9) rfl fun hS => zd (v := qf) (x0 := (sub YF (0 : Int) (4 : Int))) hS (zW rfl) rfl fun Y3 a w hz hS => ?_
        have hM := qK hz hM; clear hz
        refine qs <| qg <| sM hS rfl fun hS => qm hS rfl Tryd.call30 (jp hG K Y3 (hS.st.part 0 [0, 1, 2, 3, 4, 5] (by kernel_rfl)) (qe hM) (fun Vx w hM  hst => qk hS.ev hst.appF rfl fun hS => ?_))
        replace hS : Ss _ _ _ H [Jk, YJ, Y1, Y0, YZ, YU] F _ _ := hS
        refine sO hS (un rfl rfl) rfl fun hS => sM hS rfl fun hS => z6 3 false 110 (b := (!Vx)) (r := (Op.bytesLess Y3 YM || Y3 == YM)) hS rfl rfl rfl rfl rfl rfl rfl (fun hb a w hS K hK => ?_) rfl fun a w hS => ?_
        ·refine qG hS rfl rfl rfl hb (mv rfl) rfl fun a w hS => ?_
         refine qG hS rfl rfl rfl hb (mv rfl) rfl fun a w hS => qG hS rfl rfl rfl hb (vT rfl rfl rfl) rfl fun a w hS => ?_
         exact qZ (hK _ _ (hS.up 3 rfl rfl))
        refine qs <| qH hS rfl hM (fun J8 hM => ?_) (fun J8 hM => ?_)
        ·refine wp_seq ?_
         refine zH <| sA hS rfl fun hS => sA hS rfl fun hS => ?_
         obtain ⟨Vm, J3, hS⟩ := hS.nilV 36 qc.cells 2
         refine sA hS rfl fun hS => qs <| wp_ret <| qo (zt (qo (qo (zt (qo ?_)))))
         exact qN (rs := [2, 3, 4]) hS rfl rfl (hret (0 : Int) none (0) ([] : List qc) Vm (3 : Int) _ (qD hM) J3 (hS.st.pick [0] (by kernel_rfl)))
        ·refine wp_skip ?_
         refine qd <| qg <| sM hS rfl fun hS => sO hS (x4 0 rfl Jo rfl ([qf YF, .int .i64 YI]) rfl rfl Tryd.isAgg47 Tryd.sizeOf47) rfl fun hS => qm hS rfl Tryd.call31 (y2 hG K (xg.mk (qp.mk YO (0 : Int)) (qz.mk YH)) (qp.mk YF YI) Jt YJ Y8 Y1 Jf Ji Y0 Y7 JW J2 (hS.st.part 3 [1, 2, 3, 0, 4, 5] (by kernel_rfl)) (qe hM) (fun YK YE Vy Ve Vh Jc Ju Jv w hM Vr Vs hst => qk hS.ev hst.appF rfl fun hS => ?_))
         replace hS : Ss _ _ _ H [YJ, Jv, Ju, Jk, YZ, YU] F _ _ := hS
         refine sM hS rfl fun hS => sO hS (ex rfl rfl) rfl fun hS => sO hS (ex rfl rfl) rfl fun hS => ub ([qf ([] : List UInt8), qf ([] : List UInt8)]) hS Tryd.zeroValue36 rfl rfl fun w VI VM Jw hS => vB 0 ([qf YK, qf YE]) ([qf YK, qf YE]) hS rfl rfl Jw rfl rfl Tryd.sizeOf36 (by simp [Value.oneCell']) (Nat.le_of_ble_eq_true rfl) rfl fun w JN Y2 hS => sA hS rfl fun hS => qs <| wp_seq <| qg <| sM hS rfl fun hS => sB hS rfl fun hS => qs <| qH hS rfl hM (fun JE hM => ?_) (fun JE hM => ?_)
         ·refine wp_seq ?_
          refine zH <| sM hS rfl fun hS => sA hS rfl fun hS => sA hS rfl fun hS => ?_
          obtain ⟨JO, Jz, hS⟩ := hS.nilV 36 qc.cells 2
          refine sA hS rfl fun hS => qs <| wp_ret <| qo (zt (qo (qo (zt (qo ?_)))))
          exact qN (rs := [2, 3, 4]) hS rfl rfl (hret (0 : Int) none (0) ([] : List qc) JO Vy _ (qD hM) Jz (hS.st.pick [0] (by kernel_rfl)))
         ·refine wp_skip ?_
          refine qd <| qg <| sO hS (zX rfl Tryd.runUnderlying36 rfl Tryd.sizeOf9 rfl) rfl fun hS => sO hS (xi 0 rfl Y2 rfl rfl Tryd.isAgg9) rfl fun hS => sA hS rfl fun hS => qs <| qg <| sM hS rfl fun hS => sO hS (zX rfl Tryd.runUnderlying36 rfl Tryd.sizeOf9 rfl) rfl fun hS => sO hS (xi 0 rfl Y2 rfl rfl Tryd.isAgg9) rfl fun hS => sO hS (zV rfl Tryd.runUnderlying9) rfl fun hS => qm hS rfl Tryd.call32 (xy hG K (YE.length : Int) (hS.st.part 0 [0, 1, 2, 3, 4, 5, 6] (by kernel_rfl)) (qe hM) (fun Vc w hM  hst => qk hS.ev hst.appF rfl fun hS => ?_))
          replace hS : Ss _ _ _ H [JN, YJ, Jv, Ju, Jk, YZ, YU] F _ _ := hS
          refine sB hS rfl fun hS => zd (v := Value.int .i64) (x0 := (qC (YP + Vc))) hS (zW rfl) rfl fun Jh a w hz hS => ?_
          have hM := qK hz hM; clear hz
          refine qs <| zH <| sM hS rfl fun hS => sO hS (x4 0 rfl Y2 rfl ([qf YK, qf YE]) rfl rfl Tryd.isAgg36 Tryd.sizeOf36) rfl fun hS => Xv (g := qc.cells) ([(qc.mk YK YE)] : List qc) [.agg ⟨[qf YK, qf YE]⟩] hS Tryd.runUnderlying24 Tryd.sizeOf36 X.el36 rfl rfl rfl (by simp [Value.cells]) rfl rfl rfl rfl rfl fun w Vz VC VD JA hS => ?_
          obtain ⟨JG, hM⟩ := qI hM
          refine XW (ys := ([(qc.mk YK YE)] : List qc)) 7 hS rfl rfl Jq rfl (JA.rd (i := 0) rfl) Tryd.runUnderlying24 Tryd.runUnderlying24 X.el36 (fun _ => rfl) rfl ZT JG rfl fun JK w JL JM JP hz JB hS => ?_
          have hM := qK hz hM; clear hz
          refine sA hS rfl fun hS => qZ <| xa (qd ?_)
          refine zH <| sB hS rfl fun hS => sM hS rfl fun hS => qZ <| qd ?_
          exact Jx _ _ ⟨Ve, Vh, Jc, Ju, Jv, JL, JM, JK, JP, Jh, YK, (qC (Jd + (1 : Int))), hS.to [2, 3, 4, 6, 7] (by kernel_rfl) ⟨rfl, rfl, rfl, rfl, rfl, rfl, rfl, rfl, trivial⟩, Vr, Vs, JB, hM⟩
       ·refine wp_exit ?_
        refine qT (qT (ze (qd ?_)))
        exact Jy _ _ ⟨Jg, Jj, YY, YU, YP, hS.to [4] (by kernel_rfl) ⟨rfl, rfl, rfl, trivial⟩, Jq, hM⟩
     ·intro a w hI
      obtain ⟨Y4, Y5, YQ, Y6, YT, hS, JC, hM⟩ := hI
      rw [qV.j3] at hM
      refine wp_seq <| qg <| sM hS rfl fun hS => sB hS rfl fun hS => qs <| qH hS rfl hM (fun JF hM => ?_) (fun JF hM => ?_)
      ·refine wp_seq ?_
       refine zH <| sA hS rfl fun hS => sA hS rfl fun hS => ?_
       obtain ⟨JQ, JD, hS⟩ := hS.nilV 36 qc.cells 2
       refine sA hS rfl fun hS => qs <| wp_ret <| qo ?_
       exact qN (rs := [2, 3, 4]) hS rfl rfl (hret (0 : Int) none (0) ([] : List qc) JQ (3 : Int) _ (qD hM) JD (hS.st.pick [0] (by kernel_rfl)))
      ·refine wp_skip ?_
       refine qd <| qg <| sM hS rfl fun hS => sO hS (yb rfl Tryd.runUnderlying55 Tryd.runUnderlying23) rfl fun hS => sM hS rfl fun hS => zd (v := Value.int .u32) (x0 := (wr .u32 YV)) hS (zW rfl) rfl fun Vb a w hz hS => ?_
       have hM := qK hz hM; clear hz
       refine sA hS rfl fun hS => sA hS rfl fun hS => qs <| wp_ret ?_
       exact qN (rs := [2, 3, 4]) hS rfl rfl (hret Vb Y4 Y5 YQ Y6 (0 : Int) _ (qD hM) JC (hS.st.pick [0] (by kernel_rfl)))
theorem xQ {H : zm} {F : List qi} {w : World} {R : Ending → World → Prop} {kr : Bool → Prop} {kp : Value → Prop} (hG : Gl H) (K : Nat) (YD : List qc) (YE : List qc) (YF : Option Addr) (YH : Nat) (YG : Option Addr) (YI : Nat) (YL : yv H [] F qc.cells YF YD) (YU : YD.length ≤ YH) (YM : yv H [] F qc.cells YG YE) (YV : YE.length ≤ YI)
    (hS : St w H [] F) (hm : (qQ.m K YD YE).wp kr kp)
    (hret : ∀ (YO : Bool) (w : World), kr YO → St w H [] F → R (.returned (.bool YO)) w) :
    Calls Tryd.prog 12 ⟨[.slice YF YD.length YH, .slice YG YE.length YI]⟩ w R := by
 refine enter Tryd.func12 rfl Tryd.ntmps12 rfl hS fun a w hS => ?_
 have hM := hm; clear hm
 rw [qQ.m] at hM
 refine qg <| sA hS rfl fun hS => qs <| wp_seq <| qg <| sM hS rfl fun hS => sO hS (xp rfl Tryd.runUnderlying24) rfl fun hS => sM hS rfl fun hS => sO hS (xp rfl Tryd.runUnderlying24) rfl fun hS => sB hS rfl fun hS => qs <| qH hS rfl hM (fun YQ hM => ?_) (fun YQ hM => ?_)
 ·refine wp_seq ?_
  refine zH <| sA hS rfl fun hS => qs <| wp_ret <| qo ?_
  exact qN (rs := [4]) hS rfl rfl (hret false _ (qD hM) (hS.st.pick [] (by kernel_rfl)))
 ·refine wp_skip ?_
  refine qd <| wp_seq <| qg <| sA hS rfl fun hS => qs <| ye <| zu (fun YN a w => ∃ (YC : Int), Ss 26 [] [(0, .slice YF YD.length YH), (1, .slice YG YE.length YI), (5, .int .i64 YC)] H [] F a w ∧ (qQ.l1 K YD YE YN YC).wp kr kp) K ?_ ?_ ?_
  ·exact ⟨(0 : Int), hS.to [] (by kernel_rfl) ⟨rfl, rfl, rfl, trivial⟩, hM⟩
  ·intro a w hI; obtain ⟨_, _, hM⟩ := hI; exact zq hM
  ·intro YN a w hI YW YP
   obtain ⟨YC, hS, hM⟩ := hI
   rw [qQ.l1] at hM
   refine wp_seq <| qg <| sM hS rfl fun hS => sM hS rfl fun hS => sO hS (xp rfl Tryd.runUnderlying24) rfl fun hS => sB hS rfl fun hS => qs <| qH hS rfl hM (fun YR hM => ?_) (fun YR hM => ?_)
   ·refine wp_skip ?_
    refine qd <| wp_seq <| ye <| wp_seq ?_
    obtain ⟨YJ, hM⟩ := qI hM
    obtain ⟨YK, hM⟩ := qI hM
    refine q8 (vals := [some (.slice YF YD.length YH), some (.int .i64 YC), some (x3 YF (Int.toNat YC * 2)), some (.agg ⟨[qf ((rd YD YC).Tag_), qf ((rd YD YC).Data_)]⟩), some (.slice YG YE.length YI), some (.int .i64 YC), some (x3 YG (Int.toNat YC * 2)), some (.agg ⟨[qf ((rd YE YC).Tag_), qf ((rd YE YC).Data_)]⟩), some (.bool (!(((rd YD YC).Tag_ == (rd YE YC).Tag_) && (((rd YD YC).Data_ == (rd YE YC).Data_) && true))))]) hS xr rfl ?_
    intro l w ho hcl hA hst
    refine xE hA hst ho hcl xv [0, 1, 2, 3, 4, 5, 6, 7, 8] rfl rfl rfl (by exact ⟨nM rfl, nM rfl, nQ rfl (by exact qr (vl rfl rfl Tryd.runUnderlying24 Tryd.sizeOf36 YL.wk (fun _ => rfl) rfl YJ) rfl), nQ rfl (by exact qr (Q7 rfl YL.wk (fun _ => rfl) YJ Tryd.isAgg36 Tryd.sizeOf36 rfl) rfl), nM rfl, nM rfl, nQ rfl (by exact qr (vl rfl rfl Tryd.runUnderlying24 Tryd.sizeOf36 YM.wk (fun _ => rfl) rfl YK) rfl), nQ rfl (by exact qr (Q7 rfl YM.wk (fun _ => rfl) YK Tryd.isAgg36 Tryd.sizeOf36 rfl) rfl), nQ rfl (by exact qr (XE rfl rfl rfl (by kernel_rfl) (by kernel_rfl) (yp.cons (by decide) Tryd.isAgg9 rfl rfl (Yc Tryd.runUnderlying9) (yp.cons (by decide) Tryd.isAgg9 rfl rfl (Yc Tryd.runUnderlying9) yp.nil)) rfl) rfl), trivial⟩) fun a w hS => ?_
    replace hS := hS.env2 (e' := [(0, .slice YF YD.length YH), (1, .slice YG YE.length YI), (5, .int .i64 YC), (25, .bool (!(((rd YD YC).Tag_ == (rd YE YC).Tag_) && (((rd YD YC).Data_ == (rd YE YC).Data_) && true))))]) ⟨rfl, rfl, rfl, rfl, trivial⟩
    refine qd <| qH hS rfl hM (fun YS hM => ?_) (fun YS hM => ?_)
    ·refine wp_seq ?_
     refine zH <| sA hS rfl fun hS => qs <| wp_ret <| zt (qo (qo (zt (qo ?_))))
     exact qN (rs := [4]) hS rfl rfl (hret false _ (qD hM) (hS.st.pick [] (by kernel_rfl)))
    ·refine wp_skip ?_
     refine xa (qd ?_)
     refine zH <| sM hS rfl fun hS => sB hS rfl fun hS => zd (v := Value.int .i64) (x0 := (qC (YC + (1 : Int)))) hS (zW rfl) rfl fun YT a w hz hS => ?_
     have hM := qK hz hM; clear hz
     refine qZ <| qd ?_
     exact YP _ _ ⟨YT, hS.to [] (by kernel_rfl) ⟨rfl, rfl, rfl, trivial⟩, hM⟩
   ·refine wp_exit ?_
    refine qT (qT (ze (qd ?_)))
    refine qg <| sA hS rfl fun hS => qs <| wp_ret ?_
    exact qN (rs := [4]) hS rfl rfl (hret true _ (qD hM) (hS.st.pick [] (by kernel_rfl)))
theorem xP {H : zm} {F : List qi} {w : World} {R : Ending → World → Prop} {kr : Bool → Prop} {kp : Value → Prop} (hG : Gl H) (K : Nat)
    (hS : St w H [] F) (hm : (qX.m K).wp kr kp)
    (hret : ∀ (YP : Bool) (w : World), kr YP → St w H [] F → R (.returned (.bool YP)) w) :
    Calls Tryd.prog 9 ⟨[]⟩ w R := by
 refine enter Tryd.func9 rfl Tryd.ntmps9 rfl hS fun a w hS => ?_
 have hM := hm; clear hm
 rw [qX.m] at hM
 refine qg <| sA hS rfl fun hS => qs <| qg <| sO hS (ug ([qf ([104, 101, 97, 100] : List UInt8), qf ([97, 98, 99, 100, 101] : List UInt8)]) [(0, 1), (1, 1)] Tryd.zeroValue36 Tryd.runUnderlying36 (by intro w; simp [Tryd.sizeOf9]) rfl rfl) rfl fun hS => Xv (g := qc.cells) ([(qc.mk ([104, 101, 97, 100] : List UInt8) ([97, 98, 99, 100, 101] : List UInt8))] : List qc) [.agg ⟨[qf ([104, 101, 97, 100] : List UInt8), qf ([97, 98, 99, 100, 101] : List UInt8)]⟩] hS Tryd.runUnderlying24 Tryd.sizeOf36 X.el36 rfl rfl rfl (by simp [Value.cells]) rfl rfl rfl rfl rfl fun w YW YX YS YH hS => sA hS rfl fun hS => qs <| qg <| sM hS rfl fun hS => qm hS rfl Tryd.call14 (jn hG K (65536 : Int) ([(qc.mk ([104, 101, 97, 100] : List UInt8) ([97, 98, 99, 100, 101] : List UInt8))] : List qc) YW YX (YH.rdF (i := 0) rfl) (YH.cap (fun _ => rfl) rfl) (hS.st.part 0 [0] (by kernel_rfl)) (qe hM) (fun YL YM w hM  hst => qk hS.ev hst.appF rfl fun hS => ?_))
 replace hS : Ss _ _ _ H [YS] F _ _ := hS
 refine sM hS rfl fun hS => sO hS (ex rfl rfl) rfl fun hS => sO hS (ex rfl rfl) rfl fun hS => sA hS rfl fun hS => sA hS rfl fun hS => qs <| qg <| sM hS rfl fun hS => qm hS rfl Tryd.call10 (yO hG K YL (hS.st.part 0 [0] (by kernel_rfl)) (qe hM) (fun YK YQ YR YU YF YO w hM YN hst => qk hS.ev hst.appF rfl fun hS => ?_))
 replace hS : Ss _ _ _ H [YF, YS] F _ _ := hS
 refine sM hS rfl fun hS => sO hS (ex rfl rfl) rfl fun hS => sO hS (ex rfl rfl) rfl fun hS => sO hS (ex rfl rfl) rfl fun hS => sA hS rfl fun hS => sA hS rfl fun hS => sA hS rfl fun hS => qs <| qg <| qm hS rfl Tryd.call10 (yO hG K ([] : List UInt8) (hS.st.part 0 [0, 1] (by kernel_rfl)) (qe hM) (fun Y2 YY Y0 Y3 YI YE w hM Y1 hst => qk hS.ev hst.appF rfl fun hS => ?_))
 replace hS : Ss _ _ _ H [YI, YF, YS] F _ _ := hS
 refine sM hS rfl fun hS => sO hS (ex rfl rfl) rfl fun hS => sO hS (ex rfl rfl) rfl fun hS => sO hS (ex rfl rfl) rfl fun hS => sA hS rfl fun hS => sA hS rfl fun hS => sA hS rfl fun hS => qs <| qg <| sM hS rfl fun hS => qm hS rfl Tryd.call14 (jn hG K (7 : Int) ([(qc.mk ([104, 101, 97, 100] : List UInt8) ([97, 98, 99, 100, 101] : List UInt8))] : List qc) YW YX (YH.rdF (i := 2) rfl) (YH.cap (fun _ => rfl) rfl) (hS.st.part 0 [0, 1, 2] (by kernel_rfl)) (qe hM) (fun Y4 YG w hM  hst => qk hS.ev hst.appF rfl fun hS => ?_))
 replace hS : Ss _ _ _ H [YI, YF, YS] F _ _ := hS
 refine sM hS rfl fun hS => sO hS (ex rfl rfl) rfl fun hS => sO hS (ex rfl rfl) rfl fun hS => sA hS rfl fun hS => sA hS rfl fun hS => qs <| qg <| sM hS rfl fun hS => sO hS (zV rfl Tryd.runUnderlying9) rfl fun hS => sB hS rfl fun hS => sM hS rfl fun hS => z6 2 true 38 (b := ((YL.length : Int) == (36 : Int))) (r := (YM == (0 : Int))) hS rfl rfl rfl rfl rfl rfl rfl (fun hb a w hS K hK => ?_) rfl fun a w hS => ?_
 ·refine qG hS rfl rfl rfl hb (mv rfl) rfl fun a w hS => ?_
  refine qG hS rfl rfl rfl hb (xD rfl rfl rfl) rfl fun a w hS => ?_
  exact qZ (hK _ _ (hS.up 2 rfl rfl))
 refine sM hS rfl fun hS => z6 2 true 42 (b := (((YL.length : Int) == (36 : Int)) && (YM == (0 : Int)))) (r := (YK == (65536 : Int))) hS rfl rfl rfl rfl rfl rfl rfl (fun hb a w hS K hK => ?_) rfl fun a w hS => ?_
 ·refine qG hS rfl rfl rfl hb (mv rfl) rfl fun a w hS => ?_
  refine qG hS rfl rfl rfl hb (xD rfl rfl rfl) rfl fun a w hS => ?_
  exact qZ (hK _ _ (hS.up 2 rfl rfl))
 refine sM hS rfl fun hS => z6 2 true 46 (b := ((((YL.length : Int) == (36 : Int)) && (YM == (0 : Int))) && (YK == (65536 : Int)))) (r := (YO == (0 : Int))) hS rfl rfl rfl rfl rfl rfl rfl (fun hb a w hS K hK => ?_) rfl fun a w hS => ?_
 ·refine qG hS rfl rfl rfl hb (mv rfl) rfl fun a w hS => ?_
  refine qG hS rfl rfl rfl hb (xD rfl rfl rfl) rfl fun a w hS => ?_
  exact qZ (hK _ _ (hS.up 2 rfl rfl))
 refine sM hS rfl fun hS => xx (fun a w => ∃ (YD : Bool), Ss 63 [] [(9, .int .i64 YE), (11, .int .i64 YG), (54, .bool YD)] H [] F a w ∧ (qX.j1 K YE YG YD).wp kr kp) 4 (fun YZ YJ => ?_) ?_
 ·refine u2 (b := (((((YL.length : Int) == (36 : Int)) && (YM == (0 : Int))) && (YK == (65536 : Int))) && (YO == (0 : Int)))) hM (fun YC hM => ?_) (fun YC hM => ?_)
  ·replace hS := hS.re 49 (v := .bool true) rfl (congrArg Value.bool YC)
   replace hS := hS.re 50 (v := .bool true) rfl (congrArg Value.bool YC)
   refine qG hS rfl rfl rfl rfl (mv rfl) rfl fun a w hS => qG hS rfl rfl rfl rfl (mv rfl) rfl fun a w hS => xA hS rfl rfl rfl rfl <| qm hS rfl Tryd.call12 (xQ hG K ([(qc.mk ([104, 101, 97, 100] : List UInt8) ([97, 98, 99, 100, 101] : List UInt8))] : List qc) YU YW YX YQ YR (YH.rdF (i := 2) rfl) (YH.cap (fun _ => rfl) rfl) (YN.rdF (i := 1) rfl) (YN.cap (fun _ => rfl) rfl) (hS.st.part 0 [0, 1, 2] (by kernel_rfl)) (qe hM) (fun YV w hM  hst => qk hS.ev hst.appF rfl fun hS => ?_))
   replace hS : Ss _ _ _ H [YI, YF, YS] F _ _ := hS
   refine sO hS (pk rfl rfl rfl) rfl fun hS => qZ <| qd ?_
   exact YJ _ _ ⟨YV, hS.to [] (by kernel_rfl) ⟨rfl, rfl, rfl, trivial⟩, hM⟩
  ·replace hS := hS.re 49 (v := .bool false) rfl (congrArg Value.bool YC)
   replace hS := hS.re 50 (v := .bool false) rfl (congrArg Value.bool YC)
   refine jr 3 hS rfl fun a w hS => sO hS (pk rfl rfl rfl) rfl fun hS => qZ <| qd ?_
   exact YJ _ _ ⟨false, hS.to [] (by kernel_rfl) ⟨rfl, rfl, rfl, trivial⟩, hM⟩
 ·intro a w hI
  obtain ⟨YD, hS, hM⟩ := hI
  rw [qX.j1] at hM
  refine sM hS rfl fun hS => z6 2 true 55 (b := YD) (r := (YE == (2 : Int))) hS rfl rfl rfl rfl rfl rfl rfl (fun hb a w hS K hK => ?_) rfl fun a w hS => ?_
  ·refine qG hS rfl rfl rfl hb (mv rfl) rfl fun a w hS => ?_
   refine qG hS rfl rfl rfl hb (xD rfl rfl rfl) rfl fun a w hS => ?_
   exact qZ (hK _ _ (hS.up 2 rfl rfl))
  refine sM hS rfl fun hS => z6 2 true 59 (b := (YD && (YE == (2 : Int)))) (r := (YG == (1 : Int))) hS rfl rfl rfl rfl rfl rfl rfl (fun hb a w hS K hK => ?_) rfl fun a w hS => ?_
  ·refine qG hS rfl rfl rfl hb (mv rfl) rfl fun a w hS => ?_
   refine qG hS rfl rfl rfl hb (xD rfl rfl rfl) rfl fun a w hS => ?_
   exact qZ (hK _ _ (hS.up 2 rfl rfl))
  refine zd (v := Value.bool) (x0 := ((YD && (YE == (2 : Int))) && (YG == (1 : Int)))) hS (zW rfl) rfl fun YT a w hz hS => ?_
  have hM := qK hz hM; clear hz
  refine qs <| wp_ret ?_
  exact qN (rs := [0]) hS rfl rfl (hret YT _ (qD hM) (hS.st.pick [] (by kernel_rfl)))
theorem yJ {H : zm} {F : List qi} {w : World} {R : Ending → World → Prop} {kr : Int → Prop} {kp : Value → Prop} (hG : Gl H) (K : Nat) (YF : List UInt8)
    (hS : St w H [] F) (hm : (qu.m K YF).wp kr kp)
    (hret : ∀ (YJ : Int) (w : World), kr YJ → St w H [] F → R (.returned (.int .u32 YJ)) w) :
    Calls Tryd.prog 17 ⟨[qf YF]⟩ w R := by
 refine enter Tryd.func17 rfl Tryd.ntmps17 rfl hS fun a w hS => ?_
 have hM := hm; clear hm
 rw [qu.m] at hM
 refine qg <| sA hS rfl fun hS => qs <| qg <| sA hS rfl fun hS => qs <| wp_seq <| qg <| sA hS rfl fun hS => qs <| ye <| zu (fun YH a w => ∃ (YC : Int) (YD : Int), Ss 29 [] [(0, qf YF), (3, .int .u32 YC), (4, .int .i64 YD)] H [] F a w ∧ (qu.l1 K YF YH YC YD).wp kr kp) K ?_ ?_ ?_
 ·exact ⟨(0 : Int), (0 : Int), hS.to [] (by kernel_rfl) ⟨rfl, rfl, rfl, trivial⟩, hM⟩
 ·intro a w hI; obtain ⟨_, _, _, hM⟩ := hI; exact zq hM
 ·intro YH a w hI YW YN
  obtain ⟨YC, YD, hS, hM⟩ := hI
  rw [qu.l1] at hM
  refine wp_seq <| qg <| sM hS rfl fun hS => sM hS rfl fun hS => sO hS (zV rfl Tryd.runUnderlying9) rfl fun hS => sB hS rfl fun hS => qs <| qH hS rfl hM (fun YO hM => ?_) (fun YO hM => ?_)
  ·refine wp_skip ?_
   refine qd <| wp_seq <| ye <| qg <| sM hS rfl fun hS => sM hS rfl fun hS => ?_
   obtain ⟨YQ, hM⟩ := qI hM
   refine sO hS (QM rfl rfl Tryd.runUnderlying9 YQ) rfl fun hS => sO hS (yb rfl Tryd.runUnderlying5 Tryd.runUnderlying23) rfl fun hS => zd (v := Value.int .u32) (x0 := (wr .u32 ((rd YF YD).toNat : Int))) hS (zW rfl) rfl fun YK a w hz hS => ?_
   have hM := qK hz hM; clear hz
   refine qs <| wp_seq <| qg <| sM hS rfl fun hS => sO hS (rem rfl rfl rfl) rfl fun hS => zd (v := Value.int .i64) (x0 := (jE YD (4 : Int))) hS (zW rfl) rfl fun YR a w hz hS => ?_
   have hM := qK hz hM; clear hz
   refine qs <| ye <| zu (fun YI a w => ∃ (YE : Int) (YG : Int), Ss 29 [] [(0, qf YF), (3, .int .u32 YC), (4, .int .i64 YD), (5, .int .u32 YE), (6, .int .i64 YG)] H [] F a w ∧ (qu.l2 K (qu.l1 K YF YH) YC YD YI YE YG).wp kr kp) K ?_ ?_ ?_
   ·exact ⟨YK, YR, hS.to [] (by kernel_rfl) ⟨rfl, rfl, rfl, rfl, rfl, trivial⟩, hM⟩
   ·intro a w hI; obtain ⟨_, _, _, hM⟩ := hI; exact zq hM
   ·intro YI a w hI YV YM
    obtain ⟨YE, YG, hS, hM⟩ := hI
    rw [qu.l2] at hM
    refine wp_seq <| qg <| sM hS rfl fun hS => sB hS rfl fun hS => qs <| qH hS rfl hM (fun YP hM => ?_) (fun YP hM => ?_)
    ·refine wp_skip ?_
     refine qd <| wp_seq <| ye <| zH <| sM hS rfl fun hS => sB hS rfl fun hS => zd (v := Value.int .u32) (x0 := (wr .u32 (YE * (256 : Int)))) hS (zW rfl) rfl fun YL a w hz hS => ?_
     have hM := qK hz hM; clear hz
     refine qZ <| xa (qd ?_)
     refine zH <| sM hS rfl fun hS => sB hS rfl fun hS => zd (v := Value.int .i64) (x0 := (qC (YG + (1 : Int)))) hS (zW rfl) rfl fun YS a w hz hS => ?_
     have hM := qK hz hM; clear hz
     refine qZ <| qd ?_
     exact YM _ _ ⟨YL, YS, hS.to [] (by kernel_rfl) ⟨rfl, rfl, rfl, rfl, rfl, trivial⟩, hM⟩
    ·refine wp_exit ?_
     refine qT (qT (ze (qd ?_)))
     refine zH <| sM hS rfl fun hS => sM hS rfl fun hS => sB hS rfl fun hS => zd (v := Value.int .u32) (x0 := (wr .u32 (YC + YE))) hS (zW rfl) rfl fun YT a w hz hS => ?_
     have hM := qK hz hM; clear hz
     refine qZ <| xa (qd ?_)
     refine zH <| sM hS rfl fun hS => sB hS rfl fun hS => zd (v := Value.int .i64) (x0 := (qC (YD + (1 : Int)))) hS (zW rfl) rfl fun YU a w hz hS => ?_
     have hM := qK hz hM; clear hz
     refine qZ <| qd ?_
     exact YN _ _ ⟨YT, YU, hS.to [] (by kernel_rfl) ⟨rfl, rfl, rfl, trivial⟩, hM⟩
  ·refine wp_exit ?_
   refine qT (qT (ze (qd ?_)))
   refine qg <| sM hS rfl fun hS => sA hS rfl fun hS => qs <| wp_ret ?_
   exact qN (rs := [2]) hS rfl rfl (hret YC _ (qD hM) (hS.st.pick [] (by kernel_rfl)))
theorem xc {H : zm} {F : List qi} {w : World} {R : Ending → World → Prop} {kr : (List UInt8) → Prop} {kp : Value → Prop} (hG : Gl H) (K : Nat) (YC : Int)
    (hS : St w H [] F) (hm : (zh.m K YC).wp kr kp)
    (hret : ∀ (YD : List UInt8) (w : World), kr YD → St w H [] F → R (.returned (qf YD)) w) :
    Calls Tryd.prog 20 ⟨[.int .u32 YC]⟩ w R := by
 refine enter Tryd.func20 rfl Tryd.ntmps20 rfl hS fun a w hS => ?_
 have hM := hm; clear hm
 rw [zh.m] at hM
 refine qg <| sA hS rfl fun hS => qs <| qg <| sM hS rfl fun hS => sO hS (shr rfl rfl rfl) rfl fun hS => sO hS (yb rfl Tryd.runUnderlying23 Tryd.runUnderlying5) rfl fun hS => sM hS rfl fun hS => sO hS (shr rfl rfl rfl) rfl fun hS => sO hS (yb rfl Tryd.runUnderlying23 Tryd.runUnderlying5) rfl fun hS => sM hS rfl fun hS => sO hS (shr rfl rfl rfl) rfl fun hS => sO hS (yb rfl Tryd.runUnderlying23 Tryd.runUnderlying5) rfl fun hS => sM hS rfl fun hS => sO hS (yb rfl Tryd.runUnderlying23 Tryd.runUnderlying5) rfl fun hS => Xv (g := (ci .u8)) ([(wr .u8 (zR .u32 YC (24 : Int))), (wr .u8 (zR .u32 YC (16 : Int))), (wr .u8 (zR .u32 YC (8 : Int))), (wr .u8 YC)] : List Int) [.int .u8 (wr .u8 (zR .u32 YC (24 : Int))), .int .u8 (wr .u8 (zR .u32 YC (16 : Int))), .int .u8 (wr .u8 (zR .u32 YC (8 : Int))), .int .u8 (wr .u8 YC)] hS Tryd.runUnderlying39 Tryd.sizeOf5 X.el5 rfl rfl rfl (by simp [Value.cells]) rfl rfl rfl rfl rfl fun w YG YH YI YE hS => sO hS (XC rfl Tryd.runUnderlying39 Tryd.runUnderlying5 Tryd.runUnderlying9 (YE.rd (i := 0) rfl)) rfl fun hS => zd (v := qf) (x0 := (([(wr .u8 (zR .u32 YC (24 : Int))), (wr .u8 (zR .u32 YC (16 : Int))), (wr .u8 (zR .u32 YC (8 : Int))), (wr .u8 YC)] : List Int).map yC)) hS (zW rfl) rfl fun YF a w hz hS => ?_
 have hM := qK hz hM; clear hz
 refine qs <| wp_ret ?_
 exact qN (rs := [2]) hS rfl rfl (hret YF _ (qD hM) (hS.st.pick [] (by kernel_rfl)))
theorem yI {H : zm} {F : List qi} {w : World} {R : Ending → World → Prop} {kr : Bool → Prop} {kp : Value → Prop} (hG : Gl H) (K : Nat) (YC : Int)
    (hS : St w H [] F) (hm : (zP.m K YC).wp kr kp)
    (hret : ∀ (YD : Bool) (w : World), kr YD → St w H [] F → R (.returned (.bool YD)) w) :
    Calls Tryd.prog 77 ⟨[.int .i64 YC]⟩ w R := by
 refine enter Tryd.func77 rfl Tryd.ntmps77 rfl hS fun a w hS => ?_
 have hM := hm; clear hm
 rw [zP.m] at hM
 refine qg <| sA hS rfl fun hS => qs <| qg <| sM hS rfl fun hS => sB hS rfl fun hS => sM hS rfl fun hS => z6 2 false 5 (b := (YC == (1 : Int))) (r := (YC == (2 : Int))) hS rfl rfl rfl rfl rfl rfl rfl (fun hb a w hS K hK => ?_) rfl fun a w hS => ?_
 ·refine qG hS rfl rfl rfl hb (mv rfl) rfl fun a w hS => ?_
  refine qG hS rfl rfl rfl hb (xD rfl rfl rfl) rfl fun a w hS => ?_
  exact qZ (hK _ _ (hS.up 2 rfl rfl))
 refine sM hS rfl fun hS => z6 2 false 9 (b := ((YC == (1 : Int)) || (YC == (2 : Int)))) (r := (YC == (4 : Int))) hS rfl rfl rfl rfl rfl rfl rfl (fun hb a w hS K hK => ?_) rfl fun a w hS => ?_
 ·refine qG hS rfl rfl rfl hb (mv rfl) rfl fun a w hS => ?_
  refine qG hS rfl rfl rfl hb (xD rfl rfl rfl) rfl fun a w hS => ?_
  exact qZ (hK _ _ (hS.up 2 rfl rfl))
 refine sM hS rfl fun hS => z6 2 false 13 (b := (((YC == (1 : Int)) || (YC == (2 : Int))) || (YC == (4 : Int)))) (r := (YC == (8 : Int))) hS rfl rfl rfl rfl rfl rfl rfl (fun hb a w hS K hK => ?_) rfl fun a w hS => ?_
 ·refine qG hS rfl rfl rfl hb (mv rfl) rfl fun a w hS => ?_
  refine qG hS rfl rfl rfl hb (xD rfl rfl rfl) rfl fun a w hS => ?_
  exact qZ (hK _ _ (hS.up 2 rfl rfl))
 refine zd (v := Value.bool) (x0 := ((((YC == (1 : Int)) || (YC == (2 : Int))) || (YC == (4 : Int))) || (YC == (8 : Int)))) hS (zW rfl) rfl fun YE a w hz hS => ?_
 have hM := qK hz hM; clear hz
 refine qs <| wp_ret ?_
 exact qN (rs := [2]) hS rfl rfl (hret YE _ (qD hM) (hS.st.pick [] (by kernel_rfl)))
theorem xL {H : zm} {F : List qi} {w : World} {R : Ending → World → Prop} {kr : ((List UInt8) × Int) → Prop} {kp : Value → Prop} (hG : Gl H) (K : Nat) (YN : Int) (YC : Int) (YF : Bool)
    (hS : St w H [] F) (hm : (qh.m K YN YC YF).wp kr kp)
    (hret : ∀ (YW : List UInt8) (YX : Int) (w : World), kr (YW, YX) → St w H [] F → R (.returned (.tuple ⟨[qf YW, .int .i64 YX]⟩)) w) :
    Calls Tryd.prog 63 ⟨[.int .u64 YN, .int .i64 YC, .bool YF]⟩ w R := by
 refine enter Tryd.func63 rfl Tryd.ntmps63 rfl hS fun a w hS => ?_
 have hM := hm; clear hm
 rw [qh.m] at hM
 refine qg <| sA hS rfl fun hS => sA hS rfl fun hS => qs <| wp_seq <| qg <| sM hS rfl fun hS => qm hS rfl Tryd.call77 (yI hG K YC (hS.st.part 0 [] (by kernel_rfl)) (qe hM) (fun Jh w hM  hst => qk hS.ev hst.appF rfl fun hS => ?_))
 replace hS : Ss _ _ _ H [] F _ _ := hS
 refine sO hS (un rfl rfl) rfl fun hS => qs <| qH hS rfl hM (fun Y3 hM => ?_) (fun Y3 hM => ?_)
 ·refine wp_seq ?_
  refine zH <| sA hS rfl fun hS => sA hS rfl fun hS => qs <| wp_ret <| qo ?_
  exact qN (rs := [6, 7]) hS rfl rfl (hret ([] : List UInt8) (1 : Int) _ (qD hM) (hS.st.pick [] (by kernel_rfl)))
 ·refine wp_skip ?_
  refine qd <| qg <| sM hS rfl fun hS => ?_
  obtain ⟨Y7, hM⟩ := qI hM
  refine Ye (g := (ci .u8)) (m := YC) (0 : Int) hS rfl rfl (by simp) Tryd.runUnderlying39 X.el5 (fun w => ⟨_, Tryd.zeroValue5 w, rfl⟩) (fun _ => rfl) rfl rfl Y7 rfl fun Y9 w YG YH Ja hz Y0 hS => ?_
  have hM := qK hz hM; clear hz
  refine sA hS rfl fun hS => qs <| zn (fun a w => ∃ (YO : Int) (YK : (List Int)) (YQ : qi), Ss 39 [] [(0, .int .u64 YO), (8, .slice YG YK.length YH)] H [YQ] F a w ∧ (z5 5 (ci .u8) 1 YG YK YH YQ) ∧ (qh.j3 K YO YK).wp kr kp) (fun Jg YZ => ?_) ?_
  ·refine wp_seq ?_
   refine zH <| sA hS rfl fun hS => qs <| ye <| zu (fun YU a w => ∃ (YE : Int) (YD : (List Int)) (YL : qi) (YI : Int), Ss 39 [] [(0, .int .u64 YE), (1, .int .i64 YC), (2, .bool YF), (8, .slice YG YD.length YH), (9, .int .i64 YI)] H [YL] F a w ∧ (z5 5 (ci .u8) 1 YG YD YH YL) ∧ (qh.l1 K YC YF YU YE YD YI).wp kr kp) K ?_ ?_ ?_
   ·exact ⟨YN, Y9, Ja, (0 : Int), hS.to [0] (by kernel_rfl) ⟨rfl, rfl, rfl, rfl, rfl, trivial⟩, Y0, hM⟩
   ·intro a w hI; obtain ⟨_, _, _, _, _, _, hM⟩ := hI; exact zq hM
   ·intro YU a w hI Jf YY
    obtain ⟨YE, YD, YL, YI, hS, YM, hM⟩ := hI
    rw [qh.l1] at hM
    refine wp_seq <| qg <| sM hS rfl fun hS => sM hS rfl fun hS => sB hS rfl fun hS => qs <| qH hS rfl hM (fun Y4 hM => ?_) (fun Y4 hM => ?_)
    ·refine wp_skip ?_
     refine qd <| wp_seq <| ye <| qg <| sM hS rfl fun hS => sA hS rfl fun hS => qs <| zn (fun a w => ∃ (YJ : Int), Ss 39 [] [(0, .int .u64 YE), (1, .int .i64 YC), (2, .bool YF), (8, .slice YG YD.length YH), (9, .int .i64 YI), (10, .int .i64 YJ)] H [YL] F a w ∧ (qh.j2 K (qh.l1 K YC YF YU) YE YD YI YJ).wp kr kp) (fun Je YR => ?_) ?_
     ·refine wp_seq ?_
      refine zH <| sM hS rfl fun hS => qs <| qH hS rfl hM (fun Y5 hM => ?_) (fun Y5 hM => ?_)
      ·refine zH ?_
       refine sM hS rfl fun hS => sB hS rfl fun hS => sM hS rfl fun hS => sB hS rfl fun hS => zd (v := Value.int .i64) (x0 := (qC ((qC (YC - (1 : Int))) - YI))) hS (zW rfl) rfl fun YV a w hz hS => ?_
       have hM := qK hz hM; clear hz
       refine qZ <| qd ?_
       exact YR _ _ ⟨YV, hS.to [0] (by kernel_rfl) ⟨rfl, rfl, rfl, rfl, rfl, rfl, trivial⟩, hM⟩
      ·refine wp_skip ?_
       refine qd ?_
       exact YR _ _ ⟨YI, hS.to [0] (by kernel_rfl) ⟨rfl, rfl, rfl, rfl, rfl, rfl, trivial⟩, hM⟩
     ·intro a w hI
      obtain ⟨YJ, hS, hM⟩ := hI
      rw [qh.j2] at hM
      refine qg <| sM hS rfl fun hS => sM hS rfl fun hS => sM hS rfl fun hS => sO hS (rem rfl rfl rfl) rfl fun hS => sO hS (yb rfl Tryd.runUnderlying55 Tryd.runUnderlying5) rfl fun hS => ?_
      obtain ⟨YS, hM⟩ := qI hM
      refine sO hS (vl rfl rfl Tryd.runUnderlying39 Tryd.sizeOf5 (YM.rd (i := 0) rfl) (fun _ => rfl) rfl YS) rfl fun hS => Yg (i := YJ) (sz := 1) 0 0 ((wr .u8 (jE YE (256 : Int)))) hS rfl rfl YM rfl Tryd.sizeOf5 (vW (wr .u8 (jE YE (256 : Int)))) (fun _ => rfl) YS rfl rfl fun YP w Jb hz YT Y1 hS => ?_
      have hM := qK hz hM; clear hz
      replace hS := hS.re 8 (u := .slice YG YD.length YH) (v := .slice YG YP.length YH) rfl (by rw [YT])
      replace hS := hS.re 27 (u := .slice YG YD.length YH) (v := .slice YG YP.length YH) rfl (by rw [YT])
      refine qs <| zH <| sM hS rfl fun hS => sO hS (quo rfl rfl rfl) rfl fun hS => zd (v := Value.int .u64) (x0 := (jg .u64 YE (256 : Int))) hS (zW rfl) rfl fun Y8 a w hz hS => ?_
      have hM := qK hz hM; clear hz
      refine qZ <| xa (qd ?_)
      refine zH <| sM hS rfl fun hS => sB hS rfl fun hS => zd (v := Value.int .i64) (x0 := (qC (YI + (1 : Int)))) hS (zW rfl) rfl fun Jc a w hz hS => ?_
      have hM := qK hz hM; clear hz
      refine qZ <| qd ?_
      exact YY _ _ ⟨Y8, YP, Jb, Jc, hS.to [0] (by kernel_rfl) ⟨rfl, rfl, rfl, rfl, rfl, trivial⟩, Y1, hM⟩
    ·refine wp_exit ?_
     refine qT (qT (ze (qd ?_)))
     exact YZ _ _ ⟨YE, YD, YL, hS.to [0] (by kernel_rfl) ⟨rfl, rfl, trivial⟩, YM, hM⟩
  ·intro a w hI
   obtain ⟨YO, YK, YQ, hS, Y2, hM⟩ := hI
   rw [qh.j3] at hM
   refine wp_seq <| qg <| sM hS rfl fun hS => sB hS rfl fun hS => qs <| qH hS rfl hM (fun Y6 hM => ?_) (fun Y6 hM => ?_)
   ·refine wp_seq ?_
    refine zH <| sA hS rfl fun hS => sA hS rfl fun hS => qs <| wp_ret <| qo ?_
    exact qN (rs := [6, 7]) hS rfl rfl (hret ([] : List UInt8) (10 : Int) _ (qD hM) (hS.st.pick [] (by kernel_rfl)))
   ·refine wp_skip ?_
    refine qd <| qg <| sM hS rfl fun hS => sO hS (XC rfl Tryd.runUnderlying39 Tryd.runUnderlying5 Tryd.runUnderlying9 (Y2.rd (i := 0) rfl)) rfl fun hS => zd (v := qf) (x0 := (YK.map yC)) hS (zW rfl) rfl fun Jd a w hz hS => ?_
    have hM := qK hz hM; clear hz
    refine sA hS rfl fun hS => qs <| wp_ret ?_
    exact qN (rs := [6, 7]) hS rfl rfl (hret Jd (0 : Int) _ (qD hM) (hS.st.pick [] (by kernel_rfl)))
theorem jG {H : zm} {F : List qi} {w : World} {R : Ending → World → Prop} {kr : (List UInt8) → Prop} {kp : Value → Prop} (hG : Gl H) (K : Nat) (YC : Int)
    (hS : St w H [] F) (hm : (zY.m K YC).wp kr kp)
    (hret : ∀ (YD : List UInt8) (w : World), kr YD → St w H [] F → R (.returned (qf YD)) w) :
    Calls Tryd.prog 44 ⟨[.int .i64 YC]⟩ w R := by
 refine enter Tryd.func44 rfl Tryd.ntmps44 rfl hS fun a w hS => ?_
 have hM := hm; clear hm
 rw [zY.m] at hM
 refine qg <| sA hS rfl fun hS => qs <| qg <| sM hS rfl fun hS => sO hS (yb rfl Tryd.runUnderlying3 Tryd.runUnderlying55) rfl fun hS => qm hS rfl Tryd.call63 (xL hG K (wr .u64 YC) (4 : Int) true (hS.st.part 0 [] (by kernel_rfl)) (qe hM) (fun YE YF w hM  hst => qk hS.ev hst.appF rfl fun hS => ?_))
 replace hS : Ss _ _ _ H [] F _ _ := hS
 refine sM hS rfl fun hS => sO hS (ex rfl rfl) rfl fun hS => sO hS (ex rfl rfl) rfl fun hS => sA hS rfl fun hS => sA hS rfl fun hS => qs <| qg <| sM hS rfl fun hS => sA hS rfl fun hS => qs <| wp_ret ?_
 exact qN (rs := [2]) hS rfl rfl (hret YE _ (qD hM) (hS.st.pick [] (by kernel_rfl)))
theorem z7 {H : zm} {F : List qi} {w : World} {R : Ending → World → Prop} {kr : (List UInt8) → Prop} {kp : Value → Prop} (hG : Gl H) (K : Nat) (YC : Int)
    (hS : St w H [] F) (hm : (zr.m K YC).wp kr kp)
    (hret : ∀ (YD : List UInt8) (w : World), kr YD → St w H [] F → R (.returned (qf YD)) w) :
    Calls Tryd.prog 45 ⟨[.int .i64 YC]⟩ w R := by
 refine enter Tryd.func45 rfl Tryd.ntmps45 rfl hS fun a w hS => ?_
 have hM := hm; clear hm
 rw [zr.m] at hM
 refine qg <| sA hS rfl fun hS => qs <| qg <| sM hS rfl fun hS => sO hS (yb rfl Tryd.runUnderlying3 Tryd.runUnderlying55) rfl fun hS => qm hS rfl Tryd.call63 (xL hG K (wr .u64 YC) (2 : Int) true (hS.st.part 0 [] (by kernel_rfl)) (qe hM) (fun YE YF w hM  hst => qk hS.ev hst.appF rfl fun hS => ?_))
 replace hS : Ss _ _ _ H [] F _ _ := hS
 refine sM hS rfl fun hS => sO hS (ex rfl rfl) rfl fun hS => sO hS (ex rfl rfl) rfl fun hS => sA hS rfl fun hS => sA hS rfl fun hS => qs <| qg <| sM hS rfl fun hS => sA hS rfl fun hS => qs <| wp_ret ?_
 exact qN (rs := [2]) hS rfl rfl (hret YE _ (qD hM) (hS.st.pick [] (by kernel_rfl)))
theorem yY {H : zm} {F : List qi} {w : World} {R : Ending → World → Prop} {kr : (List UInt8) → Prop} {kp : Value → Prop} (hG : Gl H) (K : Nat) (YC : Int) (YD : Int)
    (hS : St w H [] F) (hm : (qE.m K YC YD).wp kr kp)
    (hret : ∀ (YJ : List UInt8) (w : World), kr YJ → St w H [] F → R (.returned (qf YJ)) w) :
    Calls Tryd.prog 21 ⟨[.int .u32 YC, .int .i64 YD]⟩ w R := by
 refine enter Tryd.func21 rfl Tryd.ntmps21 rfl hS fun a w hS => ?_
 have hM := hm; clear hm
 rw [qE.m] at hM
 refine qg <| sA hS rfl fun hS => qs <| qg <| sA hS rfl fun hS => qs <| qg <| sA hS rfl fun hS => qs <| zn (fun a w => ∃ (YH : Int) (YF : Int), Ss 34 [] [(0, .int .u32 YC), (1, .int .i64 YD), (5, .int .i64 YH), (6, .int .i64 YF)] H [] F a w ∧ (qE.j2 K YC YD YH YF).wp kr kp) (fun Y0 YM => ?_) ?_
 ·refine ye ?_
  refine zu (fun YI a w => ∃ (YG : Int) (YE : Int), Ss 34 [] [(0, .int .u32 YC), (1, .int .i64 YD), (5, .int .i64 YG), (6, .int .i64 YE)] H [] F a w ∧ (qE.l1 K YC YD YI YG YE).wp kr kp) K ?_ ?_ ?_
  ·exact ⟨(1 : Int), (0 : Int), hS.to [] (by kernel_rfl) ⟨rfl, rfl, rfl, rfl, trivial⟩, hM⟩
  ·intro a w hI; obtain ⟨_, _, _, hM⟩ := hI; exact zq hM
  ·intro YI a w hI YZ YL
   obtain ⟨YG, YE, hS, hM⟩ := hI
   rw [qE.l1] at hM
   refine wp_seq <| qg <| sM hS rfl fun hS => sB hS rfl fun hS => sM hS rfl fun hS => sB hS rfl fun hS => qs <| qH hS rfl hM (fun YN hM => ?_) (fun YN hM => ?_)
   ·refine wp_skip ?_
    refine qd <| ye <| qg <| sM hS rfl fun hS => sB hS rfl fun hS => zd (v := Value.int .i64) (x0 := (qC ((2 : Int) * YG))) hS (zW rfl) rfl fun YS a w hz hS => ?_
    have hM := qK hz hM; clear hz
    refine qs <| zH <| sM hS rfl fun hS => sB hS rfl fun hS => zd (v := Value.int .i64) (x0 := (qC (YE + (1 : Int)))) hS (zW rfl) rfl fun YK a w hz hS => ?_
    have hM := qK hz hM; clear hz
    refine qZ <| xa (qd ?_)
    exact YL _ _ ⟨YS, YK, hS.to [] (by kernel_rfl) ⟨rfl, rfl, rfl, rfl, trivial⟩, hM⟩
   ·refine wp_exit ?_
    refine qT (qT (ze (qd ?_)))
    exact YM _ _ ⟨YG, YE, hS.to [] (by kernel_rfl) ⟨rfl, rfl, rfl, rfl, trivial⟩, hM⟩
 ·intro a w hI
  obtain ⟨YH, YF, hS, hM⟩ := hI
  rw [qE.j2] at hM
  refine qg <| sM hS rfl fun hS => sO hS (yb rfl Tryd.runUnderlying23 Tryd.runUnderlying3) rfl fun hS => qm hS rfl Tryd.call44 (jG hG K (wr .i64 YC) (hS.st.part 0 [] (by kernel_rfl)) (qe hM) (fun YU w hM  hst => qk hS.ev hst.appF rfl fun hS => ?_))
  replace hS : Ss _ _ _ H [] F _ _ := hS
  refine sM hS rfl fun hS => qm hS rfl Tryd.call45 (z7 hG K YD (hS.st.part 0 [] (by kernel_rfl)) (qe hM) (fun YV w hM  hst => qk hS.ev hst.appF rfl fun hS => ?_))
  replace hS : Ss _ _ _ H [] F _ _ := hS
  obtain ⟨YO, hM⟩ := qI hM
  refine sO hS (jA rfl rfl YO) rfl fun hS => sM hS rfl fun hS => sB hS rfl fun hS => qm hS rfl Tryd.call45 (z7 hG K (qC ((16 : Int) * YH)) (hS.st.part 0 [] (by kernel_rfl)) (qe hM) (fun YW w hM  hst => qk hS.ev hst.appF rfl fun hS => ?_))
  replace hS : Ss _ _ _ H [] F _ _ := hS
  obtain ⟨YP, hM⟩ := qI hM
  refine sO hS (jA rfl rfl YP) rfl fun hS => sM hS rfl fun hS => qm hS rfl Tryd.call45 (z7 hG K YF (hS.st.part 0 [] (by kernel_rfl)) (qe hM) (fun YX w hM  hst => qk hS.ev hst.appF rfl fun hS => ?_))
  replace hS : Ss _ _ _ H [] F _ _ := hS
  obtain ⟨YQ, hM⟩ := qI hM
  refine sO hS (jA rfl rfl YQ) rfl fun hS => sM hS rfl fun hS => sM hS rfl fun hS => sB hS rfl fun hS => sB hS rfl fun hS => qm hS rfl Tryd.call45 (z7 hG K (qC ((16 : Int) * (qC (YD - YH)))) (hS.st.part 0 [] (by kernel_rfl)) (qe hM) (fun YY w hM  hst => qk hS.ev hst.appF rfl fun hS => ?_))
  replace hS : Ss _ _ _ H [] F _ _ := hS
  obtain ⟨YR, hM⟩ := qI hM
  refine sO hS (jA rfl rfl YR) rfl fun hS => zd (v := qf) (x0 := ((((YU ++ YV) ++ YW) ++ YX) ++ YY)) hS (zW rfl) rfl fun YT a w hz hS => ?_
  have hM := qK hz hM; clear hz
  refine qs <| wp_ret ?_
  exact qN (rs := [4]) hS rfl rfl (hret YT _ (qD hM) (hS.st.pick [] (by kernel_rfl)))
theorem x8 {H : zm} {F : List qi} {w : World} {R : Ending → World → Prop} {kr : Bool → Prop} {kp : Value → Prop} (hG : Gl H) (K : Nat) (kind1 : Int) (l_2 : List qc) (gap7 : Int) (A3 : Option Addr) (c4 : Nat) (hr5 : yv H [] F qc.cells A3 l_2) (hc6 : l_2.length ≤ c4)
    (hS : St w H [] F) (hm : (qb.m K kind1 l_2 gap7).wp kr kp)
    (hret : ∀ (Ju : Bool) (w : World), kr Ju → St w H [] F → R (.returned (.bool Ju)) w) :
    Calls Tryd.prog 8 ⟨[.int .u32 kind1, .slice A3 l_2.length c4, .int .i64 gap7]⟩ w R := by
 refine enter Tryd.func8 rfl Tryd.ntmps8 rfl hS fun a w hS => ?_
 have hM := hm; clear hm
 rw [qb.m] at hM
 refine qg <| sA hS rfl fun hS => qs <| wp_seq <| qg <| sM hS rfl fun hS => qm hS rfl Tryd.call13 (yH hG K l_2 A3 c4 (hr5.app _) hc6 (hS.st.part 0 [] (by kernel_rfl)) (qe hM) (fun J8 w hM  hst => qk hS.ev hst.appF rfl fun hS => ?_))
 replace hS : Ss _ _ _ H [] F _ _ := hS
 refine sO hS (un rfl rfl) rfl fun hS => sM hS rfl fun hS => z6 3 false 19 (b := (!J8)) (r := (decide ((l_2.length : Int) > (40 : Int)))) hS rfl rfl rfl rfl rfl rfl rfl (fun hb a w hS K hK => ?_) rfl fun a w hS => ?_
 ·refine qG hS rfl rfl rfl hb (mv rfl) rfl fun a w hS => ?_
  refine qG hS rfl rfl rfl hb (xp rfl Tryd.runUnderlying24) rfl fun a w hS => qG hS rfl rfl rfl hb (xD rfl rfl rfl) rfl fun a w hS => ?_
  exact qZ (hK _ _ (hS.up 3 rfl rfl))
 refine sM hS rfl fun hS => z6 2 false 24 (b := ((!J8) || (decide ((l_2.length : Int) > (40 : Int))))) (r := (decide (gap7 < (0 : Int)))) hS rfl rfl rfl rfl rfl rfl rfl (fun hb a w hS K hK => ?_) rfl fun a w hS => ?_
 ·refine qG hS rfl rfl rfl hb (mv rfl) rfl fun a w hS => ?_
  refine qG hS rfl rfl rfl hb (xD rfl rfl rfl) rfl fun a w hS => ?_
  exact qZ (hK _ _ (hS.up 2 rfl rfl))
 refine sM hS rfl fun hS => z6 2 false 28 (b := (((!J8) || (decide ((l_2.length : Int) > (40 : Int)))) || (decide (gap7 < (0 : Int))))) (r := (decide (gap7 > (100 : Int)))) hS rfl rfl rfl rfl rfl rfl rfl (fun hb a w hS K hK => ?_) rfl fun a w hS => ?_
 ·refine qG hS rfl rfl rfl hb (mv rfl) rfl fun a w hS => ?_
  refine qG hS rfl rfl rfl hb (xD rfl rfl rfl) rfl fun a w hS => ?_
  exact qZ (hK _ _ (hS.up 2 rfl rfl))
 refine sM hS rfl fun hS => xx (fun a w => ∃ (J7 : Bool), Ss 128 [] [(0, .int .u32 kind1), (1, .slice A3 l_2.length c4), (2, .int .i64 gap7), (36, .bool J7)] H [] F a w ∧ (qb.j1 K kind1 l_2 gap7 J7).wp kr kp) 4 (fun Vq J0 => ?_) ?_
 ·refine u2 (b := ((((!J8) || (decide ((l_2.length : Int) > (40 : Int)))) || (decide (gap7 < (0 : Int)))) || (decide (gap7 > (100 : Int))))) hM (fun Jk hM => ?_) (fun Jk hM => ?_)
  ·replace hS := hS.re 31 (v := .bool true) rfl (congrArg Value.bool Jk)
   replace hS := hS.re 32 (v := .bool true) rfl (congrArg Value.bool Jk)
   refine jr 3 hS rfl fun a w hS => sO hS (pk rfl rfl rfl) rfl fun hS => qZ <| qd ?_
   exact J0 _ _ ⟨true, hS.to [] (by kernel_rfl) ⟨rfl, rfl, rfl, rfl, trivial⟩, hM⟩
  ·replace hS := hS.re 31 (v := .bool false) rfl (congrArg Value.bool Jk)
   replace hS := hS.re 32 (v := .bool false) rfl (congrArg Value.bool Jk)
   refine qG hS rfl rfl rfl rfl (mv rfl) rfl fun a w hS => xA hS rfl rfl rfl rfl <| qm hS rfl Tryd.call18 (yZ hG K kind1 (hS.st.part 0 [] (by kernel_rfl)) (qe hM) (fun Vo w hM  hst => qk hS.ev hst.appF rfl fun hS => ?_))
   replace hS : Ss _ _ _ H [] F _ _ := hS
   refine qG hS rfl rfl rfl rfl (un rfl rfl) rfl fun a w hS => sO hS (pk rfl rfl rfl) rfl fun hS => qZ <| qd ?_
   exact J0 _ _ ⟨(!Vo), hS.to [] (by kernel_rfl) ⟨rfl, rfl, rfl, rfl, trivial⟩, hM⟩
 ·intro a w hI
  obtain ⟨J7, hS, hM⟩ := hI
  rw [qb.j1] at hM
  refine sM hS rfl fun hS => xx (fun a w => ∃ (Va : Bool), Ss 128 [] [(0, .int .u32 kind1), (1, .slice A3 l_2.length c4), (2, .int .i64 gap7), (41, .bool Va)] H [] F a w ∧ (qb.j2 K kind1 l_2 gap7 Va).wp kr kp) 4 (fun Vr J1 => ?_) ?_
  ·refine u2 (b := J7) hM (fun Jl hM => ?_) (fun Jl hM => ?_)
   ·replace hS := hS.re 36 (v := .bool true) rfl (congrArg Value.bool Jl)
    replace hS := hS.re 37 (v := .bool true) rfl (congrArg Value.bool Jl)
    refine jr 3 hS rfl fun a w hS => sO hS (pk rfl rfl rfl) rfl fun hS => qZ <| qd ?_
    exact J1 _ _ ⟨true, hS.to [] (by kernel_rfl) ⟨rfl, rfl, rfl, rfl, trivial⟩, hM⟩
   ·replace hS := hS.re 36 (v := .bool false) rfl (congrArg Value.bool Jl)
    replace hS := hS.re 37 (v := .bool false) rfl (congrArg Value.bool Jl)
    refine qG hS rfl rfl rfl rfl (mv rfl) rfl fun a w hS => xA hS rfl rfl rfl rfl <| qm hS rfl Tryd.call19 (y9 hG K l_2 A3 c4 (hr5.app _) hc6 (hS.st.part 0 [] (by kernel_rfl)) (qe hM) (fun Vp w hM  hst => qk hS.ev hst.appF rfl fun hS => ?_))
    replace hS : Ss _ _ _ H [] F _ _ := hS
    refine qG hS rfl rfl rfl rfl (un rfl rfl) rfl fun a w hS => sO hS (pk rfl rfl rfl) rfl fun hS => qZ <| qd ?_
    exact J1 _ _ ⟨(!Vp), hS.to [] (by kernel_rfl) ⟨rfl, rfl, rfl, rfl, trivial⟩, hM⟩
  ·intro a w hI
   obtain ⟨Va, hS, hM⟩ := hI
   rw [qb.j2] at hM
   refine qs <| qH hS rfl hM (fun J9 hM => ?_) (fun J9 hM => ?_)
   ·refine wp_seq ?_
    refine zH <| qm hS rfl Tryd.call9 (xP hG K  (hS.st.part 0 [] (by kernel_rfl)) (qe hM) (fun J4 w hM  hst => qk hS.ev hst.appF rfl fun hS => ?_))
    replace hS : Ss _ _ _ H [] F _ _ := hS
    refine sA hS rfl fun hS => qs <| wp_ret <| qo ?_
    exact qN (rs := [6]) hS rfl rfl (hret J4 _ (qD hM) (hS.st.pick [] (by kernel_rfl)))
   ·refine wp_skip ?_
    refine qd <| qg <| sA hS rfl fun hS => qs <| qg <| sA hS rfl fun hS => ?_
    obtain ⟨JX, JA, hS⟩ := hS.nilV 5 (ci .u8) 1
    refine qs <| zn (fun a w => ∃ (YE : List UInt8) (YU : Option Addr) (YW : Nat) (YG : (List Int)) (YY : qi), Ss 128 [] [(0, .int .u32 kind1), (1, .slice A3 l_2.length c4), (7, qf YE), (8, .slice YU YG.length YW)] H [YY] F a w ∧ (z5 5 (ci .u8) 1 YU YG YW YY) ∧ (qb.j6 K kind1 l_2 YE YG).wp kr kp) (fun Vg Jz => ?_) ?_
    ·refine wp_seq ?_
     refine zH <| sM hS rfl fun hS => sO hS (xp rfl Tryd.runUnderlying24) rfl fun hS => sB hS rfl fun hS => zd (v := Value.int .i64) (x0 := (qC ((l_2.length : Int) - (1 : Int)))) hS (zW rfl) rfl fun J2 a w hz hS => ?_
     have hM := qK hz hM; clear hz
     refine qs <| ye <| zu (fun Jc a w => ∃ (YF : List UInt8) (Y5 : Option Addr) (Y7 : Nat) (YN : (List Int)) (Y9 : qi) (YC : Int), Ss 128 [] [(0, .int .u32 kind1), (1, .slice A3 l_2.length c4), (2, .int .i64 gap7), (7, qf YF), (8, .slice Y5 YN.length Y7), (9, .int .i64 YC)] H [Y9] F a w ∧ (z5 5 (ci .u8) 1 Y5 YN Y7 Y9) ∧ (qb.l3 K kind1 l_2 gap7 Jc YF YN YC).wp kr kp) K ?_ ?_ ?_
     ·exact ⟨([] : List UInt8), none, 0, ([] : List Int), JX, J2, hS.to [0] (by kernel_rfl) ⟨rfl, rfl, rfl, rfl, rfl, rfl, trivial⟩, JA, hM⟩
     ·intro a w hI; obtain ⟨_, _, _, _, _, _, _, _, hM⟩ := hI; exact zq hM
     ·intro Jc a w hI Vf Jy
      obtain ⟨YF, Y5, Y7, YN, Y9, YC, hS, Jh, hM⟩ := hI
      rw [qb.l3] at hM
      refine wp_seq <| qg <| sM hS rfl fun hS => sB hS rfl fun hS => qs <| qH hS rfl hM (fun JG hM => ?_) (fun JG hM => ?_)
      ·refine wp_skip ?_
       refine qd <| wp_seq <| ye <| qg <| sM hS rfl fun hS => sM hS rfl fun hS => sB hS rfl fun hS => ?_
       obtain ⟨JI, hM⟩ := qI hM
       refine Yk 0 (0 : Int) hS rfl rfl Jh rfl Tryd.runUnderlying39 Tryd.runUnderlying3 X.el5 (fun w => ⟨_, Tryd.zeroValue5 w, rfl⟩) rfl (fun _ => rfl) rfl vW JI rfl fun JQ w Vb Vj Vl hz JB hS => ?_
       have hM := qK hz hM; clear hz
       refine sA hS rfl fun hS => qs <| qg <| sM hS rfl fun hS => sO hS (xp rfl Tryd.runUnderlying24) rfl fun hS => sB hS rfl fun hS => sB hS rfl fun hS => sM hS rfl fun hS => sO hS (xp rfl Tryd.runUnderlying39) rfl fun hS => sB hS rfl fun hS => zd (v := Value.int .i64) (x0 := (qC ((qC ((12 : Int) + (qC ((16 : Int) * (l_2.length : Int))))) + (JQ.length : Int)))) hS (zW rfl) rfl fun YD a w hz hS => ?_
       have hM := qK hz hM; clear hz
       refine qs <| qg <| sM hS rfl fun hS => sM hS rfl fun hS => sM hS rfl fun hS => ?_
       obtain ⟨YR, hM⟩ := qI hM
       refine sO hS (vl rfl rfl Tryd.runUnderlying24 Tryd.sizeOf36 hr5.wk (fun _ => rfl) rfl YR) rfl fun hS => sO hS (yD (sz := 2) rfl hr5.wk (fun _ => rfl) rfl YR Tryd.runUnderlying36 rfl Tryd.sizeOf9 rfl) rfl fun hS => sO hS (uU 1 rfl hr5.wk (fun _ => rfl) YR rfl Tryd.isAgg9) rfl fun hS => ?_
       obtain ⟨JK, hM⟩ := qI hM
       refine Yb 0 hS rfl rfl JB rfl Tryd.runUnderlying39 Tryd.runUnderlying9 X.el5 rfl JK rfl fun JR w JT JV JY hz JC hS => ?_
       have hM := qK hz hM; clear hz
       refine sA hS rfl fun hS => qs <| zn (fun a w => ∃ (Y2 : Option Addr) (Y3 : Nat) (YK : (List Int)) (YL : qi), Ss 128 [] [(0, .int .u32 kind1), (1, .slice A3 l_2.length c4), (2, .int .i64 gap7), (7, qf YF), (8, .slice Y2 YK.length Y3), (9, .int .i64 YC), (10, .int .i64 YD)] H [YL] F a w ∧ (z5 5 (ci .u8) 1 Y2 YK Y3 YL) ∧ (qb.j5 K (qb.l3 K kind1 l_2 gap7 Jc) l_2 YF YC YD YK).wp kr kp) (fun Ve Jx => ?_) ?_
       ·refine ye ?_
        refine zu (fun Jt a w => ∃ (Y6 : Option Addr) (Y8 : Nat) (YO : (List Int)) (Ja : qi), Ss 128 [] [(0, .int .u32 kind1), (1, .slice A3 l_2.length c4), (2, .int .i64 gap7), (7, qf YF), (8, .slice Y6 YO.length Y8), (9, .int .i64 YC), (10, .int .i64 YD)] H [Ja] F a w ∧ (z5 5 (ci .u8) 1 Y6 YO Y8 Ja) ∧ (qb.l4 K (qb.l3 K kind1 l_2 gap7 Jc) l_2 YF YC YD Jt YO).wp kr kp) K ?_ ?_ ?_
        ·exact ⟨JT, JV, JR, JY, hS.to [0] (by kernel_rfl) ⟨rfl, rfl, rfl, rfl, rfl, rfl, rfl, trivial⟩, JC, hM⟩
        ·intro a w hI; obtain ⟨_, _, _, _, _, _, hM⟩ := hI; exact zq hM
        ·intro Jt a w hI Vd Jw
         obtain ⟨Y6, Y8, YO, Ja, hS, Ji, hM⟩ := hI
         rw [qb.l4] at hM
         refine wp_seq <| qg <| sM hS rfl fun hS => sO hS (xp rfl Tryd.runUnderlying39) rfl fun hS => sO hS (rem rfl rfl rfl) rfl fun hS => sB hS rfl fun hS => qs <| qH hS rfl hM (fun JH hM => ?_) (fun JH hM => ?_)
         ·refine wp_skip ?_
          refine qd <| ye <| zH <| sM hS rfl fun hS => Xv (g := (ci .u8)) ([(0 : Int)] : List Int) [.int .u8 (0 : Int)] hS Tryd.runUnderlying39 Tryd.sizeOf5 X.el5 rfl rfl rfl (by simp [Value.cells]) rfl rfl rfl rfl rfl fun w Vc Vk Vm JD hS => ?_
          obtain ⟨JL, hM⟩ := qI hM
          refine XW (ys := ([(0 : Int)] : List Int)) 1 hS rfl rfl Ji rfl (JD.rd (i := 0) rfl) Tryd.runUnderlying39 Tryd.runUnderlying39 X.el5 (fun _ => rfl) rfl vW JL rfl fun JS w JU JW JZ hz JE hS => ?_
          have hM := qK hz hM; clear hz
          refine sA hS rfl fun hS => qZ <| xa (qd ?_)
          exact Jw _ _ ⟨JU, JW, JS, JZ, hS.to [1] (by kernel_rfl) ⟨rfl, rfl, rfl, rfl, rfl, rfl, rfl, trivial⟩, JE, hM⟩
         ·refine wp_exit ?_
          refine qT (qT (ze (qd ?_)))
          exact Jx _ _ ⟨Y6, Y8, YO, Ja, hS.to [0] (by kernel_rfl) ⟨rfl, rfl, rfl, rfl, rfl, rfl, rfl, trivial⟩, Ji, hM⟩
       ·intro a w hI
        obtain ⟨Y2, Y3, YK, YL, hS, JF, hM⟩ := hI
        rw [qb.j5] at hM
        refine qg <| sM hS rfl fun hS => sM hS rfl fun hS => sO hS (vl rfl rfl Tryd.runUnderlying24 Tryd.sizeOf36 hr5.wk (fun _ => rfl) rfl YR) rfl fun hS => sO hS (Q7 rfl hr5.wk (fun _ => rfl) YR Tryd.isAgg36 Tryd.sizeOf36 rfl) rfl fun hS => ub ([qf ([] : List UInt8), qf ([] : List UInt8)]) hS Tryd.zeroValue36 rfl rfl fun w YH Vn Jv hS => vB 0 ([qf ((rd l_2 YC).Tag_), qf ((rd l_2 YC).Data_)]) ([qf ((rd l_2 YC).Tag_), qf ((rd l_2 YC).Data_)]) hS rfl rfl Jv rfl rfl Tryd.sizeOf36 (by simp [Value.oneCell']) (Nat.le_of_ble_eq_true rfl) rfl fun w Jb YI hS => qs <| wp_seq <| q8 (vals := [some (qy YH 0), some (qf ((rd l_2 YC).Tag_)), some (qy YH 1), some (qf ((rd l_2 YC).Data_)), none, none, none, some (.int .i64 YD), some (.int .u32 (wr .u32 YD)), none, none, some (qy YH 1), some (qf ((rd l_2 YC).Data_)), some (.int .i64 (((rd l_2 YC).Data_).length : Int)), some (.int .u32 (wr .u32 (((rd l_2 YC).Data_).length : Int))), none, none, none]) hS xr rfl ?_
        intro l w ho hcl hA hst
        refine yc hA hst ho hcl xd xv 4 [0, 1, 2, 3, 7, 8, 11, 12, 13, 14] rfl rfl rfl rfl rfl (by exact ⟨nQ rfl (by exact qr (zX rfl Tryd.runUnderlying36 rfl Tryd.sizeOf9 rfl) rfl), nQ rfl (by exact qr (xi 0 rfl YI rfl rfl Tryd.isAgg9) rfl), nQ rfl (by exact qr (zX rfl Tryd.runUnderlying36 rfl Tryd.sizeOf9 rfl) rfl), nQ rfl (by exact qr (xi 0 rfl YI rfl rfl Tryd.isAgg9) rfl), nM rfl, nQ rfl (by exact qr (yb rfl Tryd.runUnderlying3 Tryd.runUnderlying23) rfl), nQ rfl (by exact qr (zX rfl Tryd.runUnderlying36 rfl Tryd.sizeOf9 rfl) rfl), nQ rfl (by exact qr (xi 0 rfl YI rfl rfl Tryd.isAgg9) rfl), nQ rfl (by exact qr (zV rfl Tryd.runUnderlying9) rfl), nQ rfl (by exact qr (yb rfl Tryd.runUnderlying3 Tryd.runUnderlying23) rfl), trivial⟩) fun D l a w ho hcl hav hpre hm hE hk hA hst => ?_
        have hS := (Ss.mk hE hst).env2 (e' := [(82, qf ((rd l_2 YC).Data_))]) ⟨rfl, trivial⟩
        refine qt rfl <| qm hS rfl Tryd.call17 (yJ hG K ((rd l_2 YC).Data_) (hS.st.part 0 [0, 1] (by kernel_rfl)) (qe hM) (fun YZ w hM  hst => qk hS.ev hst.appF rfl fun hS => ?_))
        replace hS : Ss _ _ _ H [Jb, YL] F _ _ := hS
        refine qs ?_
        replace hst := hS.st
        obtain ⟨hcl, hmust, hav2, hA⟩ := dn (vals' := [some (qy YH 0), some (qf ((rd l_2 YC).Tag_)), some (qy YH 1), some (qf ((rd l_2 YC).Data_)), some (.int .u32 YZ), none, none, some (.int .i64 YD), some (.int .u32 (wr .u32 YD)), none, none, some (qy YH 1), some (qf ((rd l_2 YC).Data_)), some (.int .i64 (((rd l_2 YC).Data_).length : Int)), some (.int .u32 (wr .u32 (((rd l_2 YC).Data_).length : Int))), none, none, none]) 4 [(3, 4), (2, 3)] hA hcl hav hm hpre hk rfl rfl rfl rfl rfl rfl rfl
        clear hm hav
        refine yc hA hst ho hcl hav2 hmust 5 [0, 1, 7, 8, 11, 12, 13, 14] rfl rfl rfl rfl rfl (by exact ⟨nQ rfl (by exact qr (zX rfl Tryd.runUnderlying36 rfl Tryd.sizeOf9 rfl) rfl), nQ rfl (by exact qr (xi 0 rfl YI rfl rfl Tryd.isAgg9) rfl), nM rfl, nQ rfl (by exact qr (yb rfl Tryd.runUnderlying3 Tryd.runUnderlying23) rfl), nQ rfl (by exact qr (zX rfl Tryd.runUnderlying36 rfl Tryd.sizeOf9 rfl) rfl), nQ rfl (by exact qr (xi 0 rfl YI rfl rfl Tryd.isAgg9) rfl), nQ rfl (by exact qr (zV rfl Tryd.runUnderlying9) rfl), nQ rfl (by exact qr (yb rfl Tryd.runUnderlying3 Tryd.runUnderlying23) rfl), trivial⟩) fun D l a w ho hcl hav hpre hm hE hk hA hst => ?_
        have hS := (Ss.mk hE hst).env2 (e' := [(83, .int .u32 YZ)]) ⟨rfl, trivial⟩
        refine qt rfl <| qm hS rfl Tryd.call20 (xc hG K YZ (hS.st.part 0 [0, 1] (by kernel_rfl)) (qe hM) (fun YJ w hM  hst => qk hS.ev hst.appF rfl fun hS => ?_))
        replace hS : Ss _ _ _ H [Jb, YL] F _ _ := hS
        refine qs ?_
        replace hst := hS.st
        obtain ⟨Y4, hM⟩ := qI hM
        obtain ⟨hcl, hmust, hav2, hA⟩ := dn (vals' := [some (qy YH 0), some (qf ((rd l_2 YC).Tag_)), some (qy YH 1), some (qf ((rd l_2 YC).Data_)), some (.int .u32 YZ), some (qf YJ), some (qf ((rd l_2 YC).Tag_ ++ YJ)), some (.int .i64 YD), some (.int .u32 (wr .u32 YD)), none, none, some (qy YH 1), some (qf ((rd l_2 YC).Data_)), some (.int .i64 (((rd l_2 YC).Data_).length : Int)), some (.int .u32 (wr .u32 (((rd l_2 YC).Data_).length : Int))), none, none, none]) 5 [(4, 5), (3, 4), (2, 3)] hA hcl hav hm hpre hk rfl rfl rfl rfl rfl rfl rfl
        clear hm hav
        refine yc hA hst ho hcl hav2 hmust 9 [0, 1, 6, 7, 8, 11, 12, 13, 14] rfl rfl rfl rfl rfl (by exact ⟨nQ rfl (by exact qr (zX rfl Tryd.runUnderlying36 rfl Tryd.sizeOf9 rfl) rfl), nQ rfl (by exact qr (xi 0 rfl YI rfl rfl Tryd.isAgg9) rfl), nQ rfl (by exact qr (jA rfl rfl Y4) rfl), nM rfl, nQ rfl (by exact qr (yb rfl Tryd.runUnderlying3 Tryd.runUnderlying23) rfl), nQ rfl (by exact qr (zX rfl Tryd.runUnderlying36 rfl Tryd.sizeOf9 rfl) rfl), nQ rfl (by exact qr (xi 0 rfl YI rfl rfl Tryd.isAgg9) rfl), nQ rfl (by exact qr (zV rfl Tryd.runUnderlying9) rfl), nQ rfl (by exact qr (yb rfl Tryd.runUnderlying3 Tryd.runUnderlying23) rfl), trivial⟩) fun D l a w ho hcl hav hpre hm hE hk hA hst => ?_
        have hS := (Ss.mk hE hst).env2 (e' := [(87, .int .u32 (wr .u32 YD))]) ⟨rfl, trivial⟩
        refine qt rfl <| qm hS rfl Tryd.call20 (xc hG K (wr .u32 YD) (hS.st.part 0 [0, 1] (by kernel_rfl)) (qe hM) (fun Y0 w hM  hst => qk hS.ev hst.appF rfl fun hS => ?_))
        replace hS : Ss _ _ _ H [Jb, YL] F _ _ := hS
        refine qs ?_
        replace hst := hS.st
        obtain ⟨Jm, hM⟩ := qI hM
        obtain ⟨hcl, hmust, hav2, hA⟩ := dn (vals' := [some (qy YH 0), some (qf ((rd l_2 YC).Tag_)), some (qy YH 1), some (qf ((rd l_2 YC).Data_)), some (.int .u32 YZ), some (qf YJ), some (qf ((rd l_2 YC).Tag_ ++ YJ)), some (.int .i64 YD), some (.int .u32 (wr .u32 YD)), some (qf Y0), some (qf (((rd l_2 YC).Tag_ ++ YJ) ++ Y0)), some (qy YH 1), some (qf ((rd l_2 YC).Data_)), some (.int .i64 (((rd l_2 YC).Data_).length : Int)), some (.int .u32 (wr .u32 (((rd l_2 YC).Data_).length : Int))), none, none, none]) 9 [(5, 9), (8, 9), (4, 5), (7, 8), (3, 4), (2, 3)] hA hcl hav hm hpre hk rfl rfl rfl rfl rfl rfl rfl
        clear hm hav
        refine yc hA hst ho hcl hav2 hmust 15 [0, 1, 6, 10, 11, 12, 13, 14] rfl rfl rfl rfl rfl (by exact ⟨nQ rfl (by exact qr (zX rfl Tryd.runUnderlying36 rfl Tryd.sizeOf9 rfl) rfl), nQ rfl (by exact qr (xi 0 rfl YI rfl rfl Tryd.isAgg9) rfl), nQ rfl (by exact qr (jA rfl rfl Y4) rfl), nQ rfl (by exact qr (jA rfl rfl Jm) rfl), nQ rfl (by exact qr (zX rfl Tryd.runUnderlying36 rfl Tryd.sizeOf9 rfl) rfl), nQ rfl (by exact qr (xi 0 rfl YI rfl rfl Tryd.isAgg9) rfl), nQ rfl (by exact qr (zV rfl Tryd.runUnderlying9) rfl), nQ rfl (by exact qr (yb rfl Tryd.runUnderlying3 Tryd.runUnderlying23) rfl), trivial⟩) fun D l a w ho hcl hav hpre hm hE hk hA hst => ?_
        have hS := (Ss.mk hE hst).env2 (e' := [(93, .int .u32 (wr .u32 (((rd l_2 YC).Data_).length : Int)))]) ⟨rfl, trivial⟩
        refine qt rfl <| qm hS rfl Tryd.call20 (xc hG K (wr .u32 (((rd l_2 YC).Data_).length : Int)) (hS.st.part 0 [0, 1] (by kernel_rfl)) (qe hM) (fun Jq w hM  hst => qk hS.ev hst.appF rfl fun hS => ?_))
        replace hS : Ss _ _ _ H [Jb, YL] F _ _ := hS
        refine qs ?_
        replace hst := hS.st
        obtain ⟨JM, hM⟩ := qI hM
        obtain ⟨Jo, Jn⟩ : ∃ x, x = ((((rd l_2 YC).Tag_ ++ YJ) ++ Y0) ++ Jq) := ⟨_, rfl⟩
        replace hM := qK Jn hM
        obtain ⟨hcl, hmust, hav2, hA⟩ := dn (vals' := [some (qy YH 0), some (qf ((rd l_2 YC).Tag_)), some (qy YH 1), some (qf ((rd l_2 YC).Data_)), some (.int .u32 YZ), some (qf YJ), some (qf ((rd l_2 YC).Tag_ ++ YJ)), some (.int .i64 YD), some (.int .u32 (wr .u32 YD)), some (qf Y0), some (qf (((rd l_2 YC).Tag_ ++ YJ) ++ Y0)), some (qy YH 1), some (qf ((rd l_2 YC).Data_)), some (.int .i64 (((rd l_2 YC).Data_).length : Int)), some (.int .u32 (wr .u32 (((rd l_2 YC).Data_).length : Int))), some (qf Jq), some (qf ((((rd l_2 YC).Tag_ ++ YJ) ++ Y0) ++ Jq)), some (qf Jo)]) 15 [(9, 15), (14, 15), (5, 9), (8, 9), (13, 14), (4, 5), (7, 8), (12, 13), (3, 4), (11, 12), (2, 3)] hA hcl hav hm hpre hk rfl rfl rfl rfl rfl rfl rfl
        clear hm hav
        refine xE hA hst ho hcl hmust [0, 1, 6, 10, 16, 17] rfl rfl rfl (by exact ⟨nQ rfl (by exact qr (zX rfl Tryd.runUnderlying36 rfl Tryd.sizeOf9 rfl) rfl), nQ rfl (by exact qr (xi 0 rfl YI rfl rfl Tryd.isAgg9) rfl), nQ rfl (by exact qr (jA rfl rfl Y4) rfl), nQ rfl (by exact qr (jA rfl rfl Jm) rfl), nQ rfl (by exact qr (jA rfl rfl JM) rfl), nQ rfl (by exact qr (zW rfl) (congrArg (qf) Jn.symm)), trivial⟩) fun a w hS => ?_
        replace hS := hS.env2 (e' := [(0, .int .u32 kind1), (1, .slice A3 l_2.length c4), (2, .int .i64 gap7), (7, qf YF), (8, .slice Y2 YK.length Y3), (9, .int .i64 YC), (12, qf Jo)]) ⟨rfl, rfl, rfl, rfl, rfl, rfl, rfl, trivial⟩
        refine qd <| zH <| sM hS rfl fun hS => sM hS rfl fun hS => ?_
        obtain ⟨JN, hM⟩ := qI hM
        refine sO hS (jA rfl rfl JN) rfl fun hS => zd (v := qf) (x0 := (Jo ++ YF)) hS (zW rfl) rfl fun Jp a w hz hS => ?_
        have hM := qK hz hM; clear hz
        refine qZ <| xa (qd ?_)
        refine zH <| sM hS rfl fun hS => sB hS rfl fun hS => zd (v := Value.int .i64) (x0 := (qC (YC - (1 : Int)))) hS (zW rfl) rfl fun J3 a w hz hS => ?_
        have hM := qK hz hM; clear hz
        refine qZ <| qd ?_
        exact Jy _ _ ⟨Jp, Y2, Y3, YK, YL, J3, hS.to [1] (by kernel_rfl) ⟨rfl, rfl, rfl, rfl, rfl, rfl, trivial⟩, JF, hM⟩
      ·refine wp_exit ?_
       refine qT (qT (ze (qd ?_)))
       exact Jz _ _ ⟨YF, Y5, Y7, YN, Y9, hS.to [0] (by kernel_rfl) ⟨rfl, rfl, rfl, rfl, trivial⟩, Jh, hM⟩
    ·intro a w hI
     obtain ⟨YE, YU, YW, YG, YY, hS, Jj, hM⟩ := hI
     rw [qb.j6] at hM
     refine wp_seq <| q8 (vals := [some (.int .u32 kind1), some (.slice A3 l_2.length c4), some (.int .i64 (l_2.length : Int)), none, some (qf YE), none, some (.slice YU YG.length YW), some (qf (YG.map yC)), none, none, none, none, none, none, none, none, none]) hS xr rfl ?_
     intro l w ho hcl hA hst
     refine yc hA hst ho hcl xd xv 3 [0, 1, 2, 4, 6, 7] rfl rfl rfl rfl rfl (by exact ⟨nM rfl, nM rfl, nQ rfl (by exact qr (xp rfl Tryd.runUnderlying24) rfl), nM rfl, nM rfl, nQ rfl (by exact qr (XC rfl Tryd.runUnderlying39 Tryd.runUnderlying5 Tryd.runUnderlying9 (Jj.rd (i := 0) rfl)) rfl), trivial⟩) fun D l a w ho hcl hav hpre hm hE hk hA hst => ?_
     have hS := (Ss.mk hE hst).env2 (e' := [(100, .int .u32 kind1), (102, .int .i64 (l_2.length : Int))]) ⟨rfl, rfl, trivial⟩
     refine qt rfl <| qm hS rfl Tryd.call21 (yY hG K kind1 (l_2.length : Int) (hS.st.part 0 [0] (by kernel_rfl)) (qe hM) (fun YM w hM  hst => qk hS.ev hst.appF rfl fun hS => ?_))
     replace hS : Ss _ _ _ H [YY] F _ _ := hS
     refine qs ?_
     replace hst := hS.st
     obtain ⟨JO, hM⟩ := qI hM
     obtain ⟨JP, hM⟩ := qI hM
     obtain ⟨hcl, hmust, hav2, hA⟩ := dn (vals' := [some (.int .u32 kind1), some (.slice A3 l_2.length c4), some (.int .i64 (l_2.length : Int)), some (qf YM), some (qf YE), some (qf (YM ++ YE)), some (.slice YU YG.length YW), some (qf (YG.map yC)), some (qf ((YM ++ YE) ++ (YG.map yC))), none, none, none, none, none, none, none, none]) 3 [(0, 3), (2, 3), (1, 2)] hA hcl hav hm hpre hk rfl rfl rfl rfl rfl rfl rfl
     clear hm hav
     refine yc hA hst ho hcl hav2 hmust 9 [4, 5, 6, 7, 8] rfl rfl rfl rfl rfl (by exact ⟨nM rfl, nQ rfl (by exact qr (jA rfl rfl JO) rfl), nM rfl, nQ rfl (by exact qr (XC rfl Tryd.runUnderlying39 Tryd.runUnderlying5 Tryd.runUnderlying9 (Jj.rd (i := 0) rfl)) rfl), nQ rfl (by exact qr (jA rfl rfl JP) rfl), trivial⟩) fun D l a w ho hcl hav hpre hm hE hk hA hst => ?_
     have hS := (Ss.mk hE hst).env2 (e' := [(108, qf ((YM ++ YE) ++ (YG.map yC)))]) ⟨rfl, trivial⟩
     refine qt rfl <| qm hS rfl Tryd.call10 (yO hG K ((YM ++ YE) ++ (YG.map yC)) (hS.st.part 0 [0] (by kernel_rfl)) (qe hM) (fun YS YV YX Y1 Jr YT w hM Js hst => qk hS.ev hst.appF rfl fun hS => ?_))
     replace hS : Ss _ _ _ H [Jr, YY] F _ _ := hS
     refine qs ?_
     replace hst := hS.st
     obtain ⟨hcl, hmust, hav2, hA⟩ := dn (vals' := [some (.int .u32 kind1), some (.slice A3 l_2.length c4), some (.int .i64 (l_2.length : Int)), some (qf YM), some (qf YE), some (qf (YM ++ YE)), some (.slice YU YG.length YW), some (qf (YG.map yC)), some (qf ((YM ++ YE) ++ (YG.map yC))), some (.tuple ⟨[.int .u32 YS, .slice YV Y1.length YX, .int .i64 YT]⟩), some (.tuple ⟨[.int .u32 YS, .slice YV Y1.length YX, .int .i64 YT]⟩), some (.int .u32 YS), some (.slice YV Y1.length YX), some (.int .i64 YT), some (.int .u32 YS), some (.slice YV Y1.length YX), some (.int .i64 YT)]) 9 [(3, 9), (8, 9), (0, 3), (2, 3), (5, 8), (7, 8), (1, 2), (4, 5), (6, 7)] hA hcl hav hm hpre hk rfl rfl rfl rfl rfl rfl rfl
     clear hm hav
     refine xE hA hst ho hcl hmust [10, 11, 12, 13, 14, 15, 16] rfl rfl rfl (by exact ⟨nM rfl, nQ rfl (by exact qr (ex rfl rfl) rfl), nQ rfl (by exact qr (ex rfl rfl) rfl), nQ rfl (by exact qr (ex rfl rfl) rfl), nA rfl, nA rfl, nA rfl, trivial⟩) fun a w hS => ?_
     replace hS := hS.env2 (e' := [(0, .int .u32 kind1), (1, .slice A3 l_2.length c4), (13, .int .u32 YS), (14, .slice YV Y1.length YX), (15, .int .i64 YT)]) ⟨rfl, rfl, rfl, rfl, rfl, trivial⟩
     refine qd <| qg <| sM hS rfl fun hS => sB hS rfl fun hS => sM hS rfl fun hS => z6 3 true 115 (b := (YT == (0 : Int))) (r := (YS == kind1)) hS rfl rfl rfl rfl rfl rfl rfl (fun hb a w hS K hK => ?_) rfl fun a w hS => ?_
     ·refine qG hS rfl rfl rfl hb (mv rfl) rfl fun a w hS => ?_
      refine qG hS rfl rfl rfl hb (mv rfl) rfl fun a w hS => qG hS rfl rfl rfl hb (xD rfl rfl rfl) rfl fun a w hS => ?_
      exact qZ (hK _ _ (hS.up 3 rfl rfl))
     refine sM hS rfl fun hS => xx (fun a w => ∃ (Jd : Bool), Ss 128 [] [(124, .bool Jd)] H [] F a w ∧ (qb.j7 K Jd).wp kr kp) 4 (fun Vh Jf => ?_) ?_
     ·refine u2 (b := ((YT == (0 : Int)) && (YS == kind1))) hM (fun YP hM => ?_) (fun YP hM => ?_)
      ·replace hS := hS.re 119 (v := .bool true) rfl (congrArg Value.bool YP)
       replace hS := hS.re 120 (v := .bool true) rfl (congrArg Value.bool YP)
       refine qG hS rfl rfl rfl rfl (mv rfl) rfl fun a w hS => qG hS rfl rfl rfl rfl (mv rfl) rfl fun a w hS => xA hS rfl rfl rfl rfl <| qm hS rfl Tryd.call12 (xQ hG K l_2 Y1 A3 c4 YV YX (hr5.app _) hc6 (Js.rdF (i := 0) rfl) (Js.cap (fun _ => rfl) rfl) (hS.st.part 0 [0, 1] (by kernel_rfl)) (qe hM) (fun J5 w hM  hst => qk hS.ev hst.appF rfl fun hS => ?_))
       replace hS : Ss _ _ _ H [Jr, YY] F _ _ := hS
       refine sO hS (pk rfl rfl rfl) rfl fun hS => qZ <| qd ?_
       exact Jf _ _ ⟨J5, hS.to [] (by kernel_rfl) ⟨rfl, trivial⟩, hM⟩
      ·replace hS := hS.re 119 (v := .bool false) rfl (congrArg Value.bool YP)
       replace hS := hS.re 120 (v := .bool false) rfl (congrArg Value.bool YP)
       refine jr 3 hS rfl fun a w hS => sO hS (pk rfl rfl rfl) rfl fun hS => qZ <| qd ?_
       exact Jf _ _ ⟨false, hS.to [] (by kernel_rfl) ⟨rfl, trivial⟩, hM⟩
     ·intro a w hI
      obtain ⟨Jd, hS, hM⟩ := hI
      rw [qb.j7] at hM
      refine sM hS rfl fun hS => xx (fun a w => ∃ (Je : Bool), Ss 128 [] [(127, .bool Je)] H [] F a w ∧ (qb.j8 K Je).wp kr kp) 2 (fun Vi Jg => ?_) ?_
      ·refine u2 (b := Jd) hM (fun YQ hM => ?_) (fun YQ hM => ?_)
       ·replace hS := hS.re 124 (v := .bool true) rfl (congrArg Value.bool YQ)
        replace hS := hS.re 125 (v := .bool true) rfl (congrArg Value.bool YQ)
        refine xA hS rfl rfl rfl rfl <| qm hS rfl Tryd.call9 (xP hG K  (hS.st.part 0 [] (by kernel_rfl)) (qe hM) (fun J6 w hM  hst => qk hS.ev hst.appF rfl fun hS => ?_))
        replace hS : Ss _ _ _ H [] F _ _ := hS
        refine sO hS (pk rfl rfl rfl) rfl fun hS => qZ <| qd ?_
        exact Jg _ _ ⟨J6, hS.to [] (by kernel_rfl) ⟨rfl, trivial⟩, hM⟩
       ·replace hS := hS.re 124 (v := .bool false) rfl (congrArg Value.bool YQ)
        replace hS := hS.re 125 (v := .bool false) rfl (congrArg Value.bool YQ)
        refine jr 1 hS rfl fun a w hS => sO hS (pk rfl rfl rfl) rfl fun hS => qZ <| qd ?_
        exact Jg _ _ ⟨false, hS.to [] (by kernel_rfl) ⟨rfl, trivial⟩, hM⟩
      ·intro a w hI
       obtain ⟨Je, hS, hM⟩ := hI
       rw [qb.j8] at hM
       refine sA hS rfl fun hS => qs <| wp_ret ?_
       exact qN (rs := [6]) hS rfl rfl (hret Je _ (qD hM) (hS.st.pick [] (by kernel_rfl)))
end Go.TrydS

