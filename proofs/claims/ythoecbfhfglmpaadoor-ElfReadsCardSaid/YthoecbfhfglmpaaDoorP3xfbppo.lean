/- Printed by a program of mine: each Go function answers what its model answers; conditions: what each theorem asks of memory. -/
import Derived.Test.YthoecbfhfglmpaaDoorP2xcnpje
set_option linter.unusedVariables false
set_option linter.unusedSimpArgs false
set_option maxRecDepth 100000
namespace Go.TrydS
open Go Go.Sl Go.Mo Go.Proofs
attribute [local irreducible] qA.wp
theorem jN {H : zB} {F : List qj} {w : World} {R : Ending → World → Prop} {kr : (Int × Int × Int × Int × (List qb) × (List qa) × Int) → Prop} {kp : Value → Prop} (hG : Gl H) (K : Nat) (J8 : List UInt8)
    (hS : St w H [] F) (hm : (qu.m K J8).wp kr kp)
    (hret : ∀ (V3 : Int) (VR : Int) (V0 : Int) (V2 : Int) (Ke : Option Addr) (Kh : Nat) (VF : (List qb)) (Kl : qj) (Kf : Option Addr) (Ki : Nat) (VC : (List qa)) (Km : qj) (Ks : Int) (w : World), kr (V3, VR, V0, V2, VF, VC, Ks) → (zp 58 qb.cells 8 Ke VF Kh Kl) → (zp 43 qa.cells 10 Kf VC Ki Km) → St w H [Kl, Km] F → R (.returned (.tuple ⟨[.agg ⟨[.int .i64 V3, .int .i64 VR, .int .u64 V0, .int .i64 V2, .slice Ke VF.length Kh, .slice Kf VC.length Ki]⟩, .int .i64 Ks]⟩)) w) :
    Calls Tryd.prog 10 ⟨[qr J8]⟩ w R := by
 refine XL Tryd.func10 rfl Tryd.ntmps10 rfl hS fun a w hS => ?_
 have hM := hm; clear hm
 rw [qu.m] at hM
 refine qn <| jY ([.int .i64 (0 : Int), .int .i64 (0 : Int), .int .u64 (0 : Int), .int .i64 (0 : Int), .slice none 0 0, .slice none 0 0]) hS Tryd.zeroValue27 rfl rfl fun w JQ Kj Kt hS => ?_
 obtain ⟨VT, US, hS⟩ := hS.nilV 58 qb.cells 8
 obtain ⟨Vx, UT, hS⟩ := hS.nilV 43 qa.cells 10
 refine jY ([.int .i64 (0 : Int)]) hS Tryd.zeroValue28 rfl rfl fun w JW Vd Vs hS => qs <| qn <| sO hS (Jm rfl rfl) rfl fun hS => Xj hS rfl fun a w hS => ?_
 obtain ⟨Vr, Kc, hM⟩ := ZU hM
 have Vk : ∀ v w a (UI : qj) (UJ : qj) (U3 : Value) (U4 : Value) (U5 : Value) (U6 : Value) (U7 : Value) (U8 : Value) (U9 : Value), Vr v → Ev 133 [⟨.fn (.func 18) ⟨[qp JQ 0, qp JW 0]⟩, ⟨[]⟩⟩] [(2, qp JQ 0), (3, qp JW 0)] a → zH UI JQ [U3, U4, U5, U6, U7, U8] 27 → zH UJ JW [U9] 28 → St w H [UI, UJ] F → bodyPostD Tryd.prog Tryd.f10 R (.panic [⟨v, false, false⟩]) a w := by
  intro v w a UI UJ U3 U4 U5 U6 U7 U8 U9 hk UQ Ku Kv hst
  have hM := Kc v hk
  rw [qu.h1] at hM
  obtain ⟨Vv, Bb, hM⟩ := ZW hM
  cases XJ Bb
  refine X2 UQ hst Tryd.call18 Tryd.func18 rfl Tryd.ntmps18 rfl rfl rfl fun a w hS => qn <| sM hS rfl fun hS => sO hS (Jx .neq rfl rfl Tryd.runUnderlying20 rfl) rfl fun hS => qs <| jn hS rfl <| qR (vals := [some (.agg ⟨[.int .i64 (0 : Int), .int .i64 (0 : Int), .int .u64 (0 : Int), .int .i64 (0 : Int), .slice none 0 0, .slice none 0 0]⟩), some (.iface 45 (.agg ⟨[.int .i64 Vv]⟩)), some (.agg ⟨[.int .i64 Vv]⟩), some (.int .i64 Vv), none, none]) hS xe rfl ?_
  intro l w ho hcl hA hst
  refine yA hA hst ho hcl zU xf 4 [0, 1, 2, 3] rfl rfl rfl rfl rfl (by exact ⟨nQ rfl (by exact qH (jW ([.int .i64 (0 : Int), .int .i64 (0 : Int), .int .u64 (0 : Int), .int .i64 (0 : Int), .slice none 0 0, .slice none 0 0]) [(0, 1), (1, 1), (2, 1), (3, 1), (4, 1), (5, 1)] Tryd.zeroValue27 Tryd.runUnderlying27 (by intro w; simp [Tryd.sizeOf23, Tryd.sizeOf24, Tryd.sizeOf25, Tryd.sizeOf3]) rfl rfl) rfl), nM rfl, nQ rfl (by exact qH (Jq rfl Tryd.runUnderlying45 rfl) rfl), nQ rfl (by exact qH (Jk rfl Tryd.runUnderlying45 rfl Tryd.isAgg28 rfl) rfl), trivial⟩) fun D l a w ho hcl hav hpre hm hE hk hA hst => ?_
  have hS := (Ss.mk hE hst).env2 (e' := [(0, qp JQ 0), (6, .agg ⟨[.int .i64 (0 : Int), .int .i64 (0 : Int), .int .u64 (0 : Int), .int .i64 (0 : Int), .slice none 0 0, .slice none 0 0]⟩)]) ⟨rfl, rfl, trivial⟩
  refine qy rfl <| jr 0 ([.int .i64 (0 : Int), .int .i64 (0 : Int), .int .u64 (0 : Int), .int .i64 (0 : Int), .slice none 0 0, .slice none 0 0]) ([.int .i64 (0 : Int), .int .i64 (0 : Int), .int .u64 (0 : Int), .int .i64 (0 : Int), .slice none 0 0, .slice none 0 0]) hS rfl rfl Ku rfl rfl Tryd.sizeOf27 (by simp [Value.oneCell']) (Nat.le_of_ble_eq_true rfl) rfl fun w BU Kw hS => ?_
  obtain ⟨Bn, KV, hS⟩ := hS.nilV 58 qb.cells 8
  obtain ⟨Bo, KW, hS⟩ := hS.nilV 43 qa.cells 10
  refine qs ?_
  replace hst := hS.st
  obtain ⟨hcl, hmust, hav2, hA⟩ := Yb (vals' := [some (.agg ⟨[.int .i64 (0 : Int), .int .i64 (0 : Int), .int .u64 (0 : Int), .int .i64 (0 : Int), .slice none 0 0, .slice none 0 0]⟩), some (.iface 45 (.agg ⟨[.int .i64 Vv]⟩)), some (.agg ⟨[.int .i64 Vv]⟩), some (.int .i64 Vv), some undef, none]) 4 [(0, 4)] hA hcl hav hm hpre rfl rfl rfl rfl rfl
  clear hm hav
  refine yA hA hst ho hcl hav2 hmust 5 [1, 2, 3] rfl rfl rfl rfl rfl (by exact ⟨nM rfl, nQ rfl (by exact qH (Jq rfl Tryd.runUnderlying45 rfl) rfl), nQ rfl (by exact qH (Jk rfl Tryd.runUnderlying45 rfl Tryd.isAgg28 rfl) rfl), trivial⟩) fun D l a w ho hcl hav hpre hm hE hk hA hst => ?_
  have hS := (Ss.mk hE hst).env2 (e' := [(1, qp JW 0), (9, .int .i64 Vv)]) ⟨rfl, rfl, trivial⟩
  refine qy rfl <| y3 3 ([.int .i64 Vv]) hS rfl rfl Kv rfl rfl rfl rfl Tryd.sizeOf28 fun w BV Kx hS => qs ?_
  replace hst := hS.st
  obtain ⟨hcl, hmust, hav2, hA⟩ := Yb (vals' := [some (.agg ⟨[.int .i64 (0 : Int), .int .i64 (0 : Int), .int .u64 (0 : Int), .int .i64 (0 : Int), .slice none 0 0, .slice none 0 0]⟩), some (.iface 45 (.agg ⟨[.int .i64 Vv]⟩)), some (.agg ⟨[.int .i64 Vv]⟩), some (.int .i64 Vv), some undef, some undef]) 5 [(0, 5), (1, 5), (2, 5), (3, 5), (4, 5)] hA hcl hav hm hpre rfl rfl rfl rfl rfl
  clear hm hav
  refine xL hA hst ho hcl hmust [] rfl rfl rfl trivial fun a w hS => ?_
  replace hS := hS.env2 (e' := []) trivial
  exact Xu hS rfl (uE (vs := [.agg ⟨[.int .i64 (0 : Int), .int .i64 (0 : Int), .int .u64 (0 : Int), .int .i64 (0 : Int), .slice none ([] : List qb).length (0), .slice none ([] : List qa).length (0)]⟩, .int .i64 Vv]) UQ hS.st rfl (by exact ⟨uZ 2 ([.int .i64 (0 : Int), .int .i64 (0 : Int), .int .u64 (0 : Int), .int .i64 (0 : Int), .slice none ([] : List qb).length (0), .slice none ([] : List qa).length (0)]) rfl Kw rfl rfl rfl Tryd.isAgg27 Tryd.sizeOf27, Jp 3 rfl Kx rfl rfl Tryd.isAgg28, trivial⟩) (hret (0 : Int) (0 : Int) (0 : Int) (0 : Int) none (0) ([] : List qb) Bn none (0) ([] : List qa) Bo Vv _ (qC hM) KV KW (hS.st.pick [1, 0] (by kernel_rfl))))
 rw [qu.j2] at hM
 refine qs <| qn <| sM hS rfl fun hS => ql hS rfl Tryd.call19 (ZT hG K J8 (hS.st.part 0 [0, 1, 2, 3] (by kernel_rfl)) (qf hM) (fun  w hM  hst => qk hS.ev hst.appF rfl fun hS => ?_))
 replace hS : Ss _ _ _ H [Vd, Vx, VT, Kj] F _ _ := hS
 refine sO hS (jW ([qr J8, .int .i64 (0 : Int)]) [(0, 2)] Tryd.zeroValue50 Tryd.runUnderlying50 (by intro w; simp [Tryd.sizeOf47]) rfl rfl) rfl fun hS => jY ([qr ([] : List UInt8), .int .i64 (0 : Int)]) hS Tryd.zeroValue50 rfl rfl fun w Uc BW Ky hS => jr 0 ([qr J8, .int .i64 (0 : Int)]) ([qr J8, .int .i64 (0 : Int)]) hS rfl rfl Ky rfl rfl Tryd.sizeOf50 (by simp [Value.oneCell']) (Nat.le_of_ble_eq_true rfl) rfl fun w VG VX hS => qs <| qn <| sO hS (xR 0 rfl VX rfl ([qr J8, .int .i64 (0 : Int)]) rfl rfl Tryd.isAgg50 Tryd.sizeOf50) rfl fun hS => ql hS rfl Tryd.call20 (vK hG K (zh.mk (qq.mk J8 (0 : Int))) (qJ.mk (0 : Int) (0 : Int) (0 : Int) (0 : Int) ([] : List qb) ([] : List qa)) JQ Kj none (0) VT none (0) Vx Kt US UT (hS.st.part 3 [4, 3, 2, 0, 1] (by kernel_rfl)) (qf hM) (fun VD Vl J7 J0 JT JP JR JS Uf w hM UN hst => qk hS.ev hst.appF rfl fun hS => ?_) (fun v w BX BC BD BE BF BG BH hk Kz hst => zg (qv (Vk _ _ _ _ _ _ _ _ _ _ _ _ hk (hS.env2 (e' := [(2, qp JQ 0), (3, qp JW 0)]) ⟨rfl, rfl, trivial⟩).ev Kz Vs (hst.appF.pick [0, 2] (by kernel_rfl))))))
 replace hS : Ss _ _ _ H [Uf, VT, Vx, VG, Vd] F _ _ := hS
 refine jY ([.int .u64 (0 : Int), .int .u64 (0 : Int), .int .i64 (0 : Int), .int .i64 (0 : Int)]) hS Tryd.zeroValue52 rfl rfl fun w UA BY KA hS => jr 0 ([.int .u64 VD, .int .u64 Vl, .int .i64 J7, .int .i64 J0]) ([.int .u64 VD, .int .u64 Vl, .int .i64 J7, .int .i64 J0]) hS rfl rfl KA rfl rfl Tryd.sizeOf52 (by simp [Value.oneCell']) (Nat.le_of_ble_eq_true rfl) rfl fun w VN VJ hS => qs <| qn <| sA hS rfl fun hS => qs <| zq (fun a w => ∃ (Uw : Option Addr) (Vm : Option qh) (Ug : qj), Ss 133 [⟨.fn (.func 18) ⟨[qp JQ 0, qp JW 0]⟩, ⟨[]⟩⟩] [(2, qp JQ 0), (3, qp JW 0), (4, qp Uc 0), (5, qp UA 0), (6, .pointer Uw)] H [Uf, VT, Vx, Vd, VG, VN, Ug] F a w ∧ (Xq qh.Own Uw Vm Ug) ∧ (qu.j3 K J8 Vl J7 J0 JT JP JR JS Vm).wp kr Vr) (fun BK UR => ?_) ?_
 ·refine wp_seq ?_
  refine zI <| sO hS (qU rfl Tryd.runUnderlying52 rfl Tryd.sizeOf3 rfl) rfl fun hS => sO hS (zD 0 rfl VJ rfl rfl Tryd.isAgg3) rfl fun hS => sB hS rfl fun hS => qs <| qI hS rfl hM (fun K7 hM => ?_) (fun K7 hM => ?_)
  ·refine zI ?_
   refine sO hS (xR 4 rfl VX rfl ([qr J8, .int .i64 (0 : Int)]) rfl rfl Tryd.isAgg50 Tryd.sizeOf50) rfl fun hS => sO hS (qU rfl Tryd.runUnderlying52 rfl Tryd.sizeOf23 rfl) rfl fun hS => sO hS (zD 0 rfl VJ rfl rfl Tryd.isAgg23) rfl fun hS => sO hS (qU rfl Tryd.runUnderlying52 rfl Tryd.sizeOf3 rfl) rfl fun hS => sO hS (zD 0 rfl VJ rfl rfl Tryd.isAgg3) rfl fun hS => sB hS rfl fun hS => sO hS (yM rfl Tryd.runUnderlying3 Tryd.runUnderlying23) rfl fun hS => ql hS rfl Tryd.call21 (xD hG K (zh.mk (qq.mk J8 (0 : Int))) VD (wr .u64 (qM ((56 : Int) * J7))) (hS.st.part 0 [0, 1, 2, 3, 4, 5] (by kernel_rfl)) (qf hM) (fun Bl U1 UH UK w hM By hst => qk hS.ev hst.appF rfl fun hS => ?_) (fun v w hk hst => zg (qv (Vk _ _ _ _ _ _ _ _ _ _ _ _ hk (hS.env2 (e' := [(2, qp JQ 0), (3, qp JW 0)]) ⟨rfl, rfl, trivial⟩).ev UN Vs (hst.appF.pick [1, 5] (by kernel_rfl))))))
   replace hS : Ss _ _ _ H [UK, VN, Uf, VT, Vx, VG, Vd] F _ _ := hS
   refine sA hS rfl fun hS => qN <| qi ?_
   replace hS := hS.front [0, 1, 2, 3, 4, 5, 6] (by kernel_rfl)
   exact UR _ _ ⟨(some ⟨Bl, 0, none⟩), (some (qh.mk (qq.mk U1 UH) (0 : Int))), UK, hS.to [2, 3, 4, 6, 5, 1, 0] (by kernel_rfl) ⟨rfl, rfl, rfl, rfl, rfl, trivial⟩, (.inr ⟨_, _, rfl, rfl, UK, rfl, By⟩), hM⟩
  ·refine wp_skip ?_
   refine qi ?_
   replace hS := hS.nilF
   exact UR _ _ ⟨none, none, ([] : qj), hS.to [2, 3, 4, 6, 5, 1, 0] (by kernel_rfl) ⟨rfl, rfl, rfl, rfl, rfl, trivial⟩, (.inl ⟨rfl, rfl, rfl⟩), hM⟩
 ·intro a w hI
  obtain ⟨Uw, Vm, Ug, hS, KS, hM⟩ := hI
  rw [qu.j3] at hM
  refine qn <| sO hS (xR 4 rfl VX rfl ([qr J8, .int .i64 (0 : Int)]) rfl rfl Tryd.isAgg50 Tryd.sizeOf50) rfl fun hS => sO hS (qU rfl Tryd.runUnderlying52 rfl Tryd.sizeOf23 rfl) rfl fun hS => sO hS (zD 5 rfl VJ rfl rfl Tryd.isAgg23) rfl fun hS => sO hS (qU rfl Tryd.runUnderlying52 rfl Tryd.sizeOf3 rfl) rfl fun hS => sO hS (zD 5 rfl VJ rfl rfl Tryd.isAgg3) rfl fun hS => sB hS rfl fun hS => sO hS (yM rfl Tryd.runUnderlying3 Tryd.runUnderlying23) rfl fun hS => ql hS rfl Tryd.call21 (xD hG K (zh.mk (qq.mk J8 (0 : Int))) Vl (wr .u64 (qM ((64 : Int) * J0))) (hS.st.part 0 [0, 1, 2, 3, 4, 5, 6] (by kernel_rfl)) (qf hM) (fun VZ Vg Vh VU w hM Kn hst => qk hS.ev hst.appF rfl fun hS => ?_) (fun v w hk hst => zg (qv (Vk _ _ _ _ _ _ _ _ _ _ _ _ hk (hS.env2 (e' := [(2, qp JQ 0), (3, qp JW 0)]) ⟨rfl, rfl, trivial⟩).ev UN Vs (hst.appF.pick [0, 3] (by kernel_rfl))))))
  replace hS : Ss _ _ _ H [VU, Uf, VT, Vx, Vd, VG, VN, Ug] F _ _ := hS
  refine sA hS rfl fun hS => qs <| zq (fun a w => ∃ (Vi : Option Addr) (Vj : Nat) (JO : (List qb)) (Vq : qj) (VV : qj), Ss 133 [⟨.fn (.func 18) ⟨[qp JQ 0, qp JW 0]⟩, ⟨[]⟩⟩] [(2, qp JQ 0), (3, qp JW 0), (4, qp Uc 0), (5, qp UA 0), (7, qp VZ 0)] H [VV, Vq, Vx, Vd, VG, VN, VU] F a w ∧ (zp 58 qb.cells 8 Vi JO Vj Vq) ∧ (zH VV JQ ([.int .i64 JT, .int .i64 JP, .int .u64 JR, .int .i64 JS, .slice Vi JO.length Vj, .slice none ([] : List qa).length (0)]) 27) ∧ (qu.j5 K J8 J0 JT JP JR JS Vg Vh JO).wp kr Vr) (fun BM KN => ?_) ?_
  ·refine wp_seq ?_
   refine zI <| sO hS (qU rfl Tryd.runUnderlying52 rfl Tryd.sizeOf3 rfl) rfl fun hS => sO hS (zD 6 rfl VJ rfl rfl Tryd.isAgg3) rfl fun hS => sM hS rfl fun hS => qs <| yp <| zz (fun Ko a w => ∃ (VH : Option Addr) (VI : Nat) (JV : (List qb)) (Uh : qj) (Ui : qj) (V9 : Option Addr) (VE : Option qh) (UL : qj) (Uq : Int), Ss 133 [⟨.fn (.func 18) ⟨[qp JQ 0, qp JW 0]⟩, ⟨[]⟩⟩] [(2, qp JQ 0), (3, qp JW 0), (4, qp Uc 0), (5, qp UA 0), (6, .pointer V9), (7, qp VZ 0), (40, .int .i64 J7), (41, .int .i64 Uq)] H [Ui, Uh, Vx, Vd, VG, VN, UL, VU] F a w ∧ (zp 58 qb.cells 8 VH JV VI Uh) ∧ (zH Ui JQ ([.int .i64 JT, .int .i64 JP, .int .u64 JR, .int .i64 JS, .slice VH JV.length VI, .slice none ([] : List qa).length (0)]) 27) ∧ (Xq qh.Own V9 VE UL) ∧ (qu.l4 K J8 J7 J0 JT JP JR JS Vg Vh Ko JV VE Uq).wp kr Vr) K ?_ ?_ ?_
   ·exact ⟨none, 0, ([] : List qb), VT, Uf, Uw, Vm, Ug, (0 : Int), hS.to [1, 2, 3, 4, 5, 6, 7, 0] (by kernel_rfl) ⟨rfl, rfl, rfl, rfl, rfl, rfl, rfl, rfl, trivial⟩, US, UN, KS, hM⟩
   ·intro a w hI; obtain ⟨_, _, _, _, _, _, _, _, _, _, _, _, _, hM⟩ := hI; exact zA hM
   ·intro Ko a w hI BL KM
    obtain ⟨VH, VI, JV, Uh, Ui, V9, VE, UL, Uq, hS, UU, VP, KT, hM⟩ := hI
    rw [qu.l4] at hM
    refine qn <| sB hS rfl fun hS => qs <| wp_seq <| qI hS rfl hM (fun K8 hM => ?_) (fun K8 hM => ?_)
    ·refine wp_skip ?_
     refine qi <| wp_seq <| yp <| qR (vals := [some (qp JQ 4), some (.slice VH JV.length VI), some (.agg ⟨[qr J8, .int .i64 (0 : Int)]⟩), some (.pointer V9), none, none, none, none, none]) hS xe rfl ?_
     intro l w ho hcl hA hst
     refine yA hA hst ho hcl zU xf 4 [0, 1, 2, 3] rfl rfl rfl rfl rfl (by exact ⟨nQ rfl (by exact qH (qU rfl Tryd.runUnderlying27 rfl Tryd.sizeOf24 rfl) rfl), nQ rfl (by exact qH (zD 0 rfl VP rfl rfl Tryd.isAgg24) rfl), nQ rfl (by exact qH (xR 4 rfl VX rfl ([qr J8, .int .i64 (0 : Int)]) rfl rfl Tryd.isAgg50 Tryd.sizeOf50) rfl), nM rfl, trivial⟩) fun D l a w ho hcl hav hpre hm hE hk hA hst => ?_
     have hS := (Ss.mk hE hst).env2 (e' := [(2, qp JQ 0), (3, qp JW 0), (45, .agg ⟨[qr J8, .int .i64 (0 : Int)]⟩), (46, .pointer V9)]) ⟨rfl, rfl, rfl, rfl, trivial⟩
     refine qy rfl ?_
     obtain ⟨Kr, Bh, hM⟩ := ZW hM
     obtain ⟨VS, hAd, KU⟩ := KT.get Bh
     obtain ⟨Bp, hF, KB⟩ := KU
     subst hAd; obtain rfl := hF.symm
     replace hS := hS.front [6, 0, 1, 2, 3, 4, 5, 7] (by kernel_rfl)
     refine ql hS rfl Tryd.call22 (jQ hG K (zh.mk (qq.mk J8 (0 : Int))) Kr VS Bp KB (hS.st.part 1 [0, 1, 2, 3, 4, 5, 6, 7] (by kernel_rfl)) (qf hM) (fun J5 J2 JY J6 J4 JX J3 J1 UZ UM w hM Bz hst => qk hS.ev hst.appF rfl fun hS => ?_) (fun v w hk hst => zg (qv (jx (qv (qv (jx (qv (Vk _ _ _ _ _ _ _ _ _ _ _ _ hk (hS.env2 (e' := [(2, qp JQ 0), (3, qp JW 0)]) ⟨rfl, rfl, trivial⟩).ev VP Vs (hst.appF.pick [0, 3] (by kernel_rfl)))))))))))
     replace hS : Ss _ _ _ H [UM, Ui, Uh, Vx, Vd, VG, VN, VU] F _ _ := hS
     refine qs ?_
     replace hst := hS.st
     obtain ⟨hcl, hmust, hav2, hA⟩ := dn (vals' := [some (qp JQ 4), some (.slice VH JV.length VI), some (.agg ⟨[qr J8, .int .i64 (0 : Int)]⟩), some (qp VS 0), some (.agg ⟨[.int .i64 J5, .int .i64 J2, .int .i64 JY, .int .u64 J6, .int .u64 J4, .int .i64 JX, .int .u64 J3, .int .u64 J1]⟩), none, none, none, none]) 4 [(2, 4), (3, 4)] hA hcl hav hm hpre hk rfl rfl rfl rfl rfl rfl rfl
     clear hm hav
     refine yA hA hst ho hcl hav2 hmust 5 [0, 1] rfl rfl rfl rfl rfl (by exact ⟨nQ rfl (by exact qH (qU rfl Tryd.runUnderlying27 rfl Tryd.sizeOf24 rfl) rfl), nQ rfl (by exact qH (zD 1 rfl VP rfl rfl Tryd.isAgg24) rfl), trivial⟩) fun D l a w ho hcl hav hpre hm hE hk hA hst => ?_
     have hS := (Ss.mk hE hst).env2 (e' := [(2, qp JQ 0), (3, qp JW 0), (47, .agg ⟨[.int .i64 J5, .int .i64 J2, .int .i64 JY, .int .u64 J6, .int .u64 J4, .int .i64 JX, .int .u64 J3, .int .u64 J1]⟩)]) ⟨rfl, rfl, rfl, trivial⟩
     refine qy rfl <| vQ (g := qb.cells) ([(qb.mk J5 J2 JY J6 J4 JX J3 J1)] : List qb) [.agg ⟨[.int .i64 J5, .int .i64 J2, .int .i64 JY, .int .u64 J6, .int .u64 J4, .int .i64 JX, .int .u64 J3, .int .u64 J1]⟩] hS Tryd.runUnderlying24 Tryd.sizeOf58 X.el58 rfl rfl rfl (by simp [Value.cells]) rfl rfl rfl rfl rfl fun w Ux UB BZ KX hS => qs ?_
     replace hst := hS.st
     obtain ⟨hcl, hmust, hav2, hA⟩ := dn (vals' := [some (qp JQ 4), some (.slice VH JV.length VI), some (.agg ⟨[qr J8, .int .i64 (0 : Int)]⟩), some (qp VS 0), some (.agg ⟨[.int .i64 J5, .int .i64 J2, .int .i64 JY, .int .u64 J6, .int .u64 J4, .int .i64 JX, .int .u64 J3, .int .u64 J1]⟩), some (.slice Ux ([(qb.mk J5 J2 JY J6 J4 JX J3 J1)] : List qb).length UB), none, none, none]) 5 [(4, 5), (2, 4), (3, 4)] hA hcl hav hm hpre hk rfl rfl rfl rfl rfl rfl rfl
     clear hm hav
     refine yA hA hst ho hcl hav2 hmust 6 [0, 1] rfl rfl rfl rfl rfl (by exact ⟨nQ rfl (by exact qH (qU rfl Tryd.runUnderlying27 rfl Tryd.sizeOf24 rfl) rfl), nQ rfl (by exact qH (zD 2 rfl VP rfl rfl Tryd.isAgg24) rfl), trivial⟩) fun D l a w ho hcl hav hpre hm hE hk hA hst => ?_
     have hS := (Ss.mk hE hst).env2 (e' := [(2, qp JQ 0), (3, qp JW 0), (44, .slice VH JV.length VI), (48, .slice Ux ([(qb.mk J5 J2 JY J6 J4 JX J3 J1)] : List qb).length UB)]) ⟨rfl, rfl, rfl, rfl, trivial⟩
     refine qy rfl ?_
     obtain ⟨Bc, hM⟩ := qL hM
     refine Xr (ys := ([(qb.mk J5 J2 JY J6 J4 JX J3 J1)] : List qb)) 3 hS rfl rfl UU rfl (KX.rd (i := 0) rfl) Tryd.runUnderlying24 Tryd.runUnderlying24 X.el58 (fun _ => rfl) rfl QU Bc rfl fun VY w Ua Ud Bq hz KY hS => ?_
     have hM := qO hz hM; clear hz
     refine qs ?_
     replace hst := hS.st
     obtain ⟨hcl, hmust, hav2, hA⟩ := dn (vals' := [some (qp JQ 4), some (.slice VH JV.length VI), some (.agg ⟨[qr J8, .int .i64 (0 : Int)]⟩), some (qp VS 0), some (.agg ⟨[.int .i64 J5, .int .i64 J2, .int .i64 JY, .int .u64 J6, .int .u64 J4, .int .i64 JX, .int .u64 J3, .int .u64 J1]⟩), some (.slice Ux ([(qb.mk J5 J2 JY J6 J4 JX J3 J1)] : List qb).length UB), some (.slice Ua VY.length Ud), some (qp JQ 4), none]) 6 [(1, 6), (4, 6), (5, 6), (0, 1), (2, 4), (3, 4)] hA hcl hav hm hpre hk rfl rfl rfl rfl rfl rfl rfl
     clear hm hav
     refine yA hA hst ho hcl hav2 hmust 8 [7] rfl rfl rfl rfl rfl (by exact ⟨nQ rfl (by exact qH (qU rfl Tryd.runUnderlying27 rfl Tryd.sizeOf24 rfl) rfl), trivial⟩) fun D l a w ho hcl hav hpre hm hE hk hA hst => ?_
     have hS := (Ss.mk hE hst).env2 (e' := [(2, qp JQ 0), (3, qp JW 0), (49, .slice Ua VY.length Ud), (50, qp JQ 4)]) ⟨rfl, rfl, rfl, rfl, trivial⟩
     refine qy rfl <| y3 2 ([.int .i64 JT, .int .i64 JP, .int .u64 JR, .int .i64 JS, .slice Ua VY.length Ud, .slice none ([] : List qa).length (0)]) hS rfl rfl VP rfl rfl rfl rfl Tryd.sizeOf24 fun w Br KC hS => qs ?_
     replace hst := hS.st
     obtain ⟨hcl, hmust, hav2, hA⟩ := Yb (vals' := [some (qp JQ 4), some (.slice VH JV.length VI), some (.agg ⟨[qr J8, .int .i64 (0 : Int)]⟩), some (qp VS 0), some (.agg ⟨[.int .i64 J5, .int .i64 J2, .int .i64 JY, .int .u64 J6, .int .u64 J4, .int .i64 JX, .int .u64 J3, .int .u64 J1]⟩), some (.slice Ux ([(qb.mk J5 J2 JY J6 J4 JX J3 J1)] : List qb).length UB), some (.slice Ua VY.length Ud), some (qp JQ 4), some undef]) 8 [(0, 8), (1, 8), (2, 8), (3, 8), (4, 8), (5, 8), (6, 8), (7, 8)] hA hcl hav hm hpre rfl rfl rfl rfl rfl
     clear hm hav
     refine xL hA hst ho hcl hmust [] rfl rfl rfl trivial fun a w hS => ?_
     replace hS := hS.env2 (e' := [(2, qp JQ 0), (3, qp JW 0), (4, qp Uc 0), (5, qp UA 0), (6, qp VS 0), (7, qp VZ 0), (40, .int .i64 J7), (41, .int .i64 Uq)]) ⟨rfl, rfl, rfl, rfl, rfl, rfl, rfl, rfl, trivial⟩
     refine xr (qi ?_)
     refine zI <| sB hS rfl fun hS => sM hS rfl fun hS => qN <| qi ?_
     replace hS := hS.front [1, 0, 2, 3, 4, 5, 6, 7, 8] (by kernel_rfl)
     exact KM _ _ ⟨Ua, Ud, VY, Bq, Br, (some ⟨VS, 0, none⟩), (some (qh.mk Kr.Window_ UZ)), UM, (qM (Uq + (1 : Int))), hS.to [2, 3, 4, 5, 6, 7, 0, 8] (by kernel_rfl) ⟨rfl, rfl, rfl, rfl, rfl, rfl, rfl, rfl, trivial⟩, KY, KC, (.inr ⟨_, _, rfl, rfl, UM, rfl, Bz⟩), hM⟩
    ·refine wp_exit ?_
     refine qK (qK (zi (qi ?_)))
     exact KN _ _ ⟨VH, VI, JV, Uh, Ui, hS.to [0, 1, 2, 3, 4, 5, 7] (by kernel_rfl) ⟨rfl, rfl, rfl, rfl, rfl, trivial⟩, UU, VP, hM⟩
  ·intro a w hI
   obtain ⟨Vi, Vj, JO, Vq, VV, hS, KZ, UO, hM⟩ := hI
   rw [qu.j5] at hM
   refine qn <| sM hS rfl fun hS => sO hS (xm rfl) rfl fun hS => sO hS (qU rfl Tryd.runUnderlying64 rfl Tryd.sizeOf47 rfl) rfl fun hS => sO hS (xR 6 rfl Kn rfl ([qr Vg, .int .i64 Vh]) rfl rfl Tryd.isAgg47 Tryd.sizeOf47) rfl fun hS => ql hS rfl Tryd.call25 (yo hG K (qq.mk Vg Vh) (hS.st.part 0 [0, 1, 2, 3, 4, 5, 6] (by kernel_rfl)) (qf hM) (fun  w hM  hst => qk hS.ev hst.appF rfl fun hS => ?_))
   replace hS : Ss _ _ _ H [VV, Vq, Vx, Vd, VG, VN, VU] F _ _ := hS
   obtain ⟨Bd, hM⟩ := qL hM
   refine sO hS (QJ rfl Tryd.runUnderlying9 Xx (QQ rfl) Bd) rfl fun hS => ql hS rfl Tryd.call24 (jF hG K (sub Vg (0 : Int) (64 : Int)) (hS.st.part 0 [0, 1, 2, 3, 4, 5, 6] (by kernel_rfl)) (qf hM) (fun BB w hM  hst => qk hS.ev hst.appF rfl fun hS => ?_))
   replace hS : Ss _ _ _ H [VV, Vq, Vx, Vd, VG, VN, VU] F _ _ := hS
   refine sO hS (vW rfl rfl rfl) rfl fun hS => ql hS rfl Tryd.call23 (zX hG K (!(BB == ([] : List UInt8))) (3 : Int) (hS.st.part 0 [0, 1, 2, 3, 4, 5, 6] (by kernel_rfl)) (qf hM) (fun  w hM  hst => qk hS.ev hst.appF rfl fun hS => ?_) (fun v w hk hst => zg (qv (Vk _ _ _ _ _ _ _ _ _ _ _ _ hk (hS.env2 (e' := [(2, qp JQ 0), (3, qp JW 0)]) ⟨rfl, rfl, trivial⟩).ev UO Vs (hst.appF.pick [0, 3] (by kernel_rfl))))))
   replace hS : Ss _ _ _ H [VV, Vq, Vx, Vd, VG, VN, VU] F _ _ := hS
   refine qs <| qn <| sM hS rfl fun hS => sO hS (xm rfl) rfl fun hS => sO hS (qU rfl Tryd.runUnderlying64 rfl Tryd.sizeOf3 rfl) rfl fun hS => y3 6 ([qr Vg, .int .i64 Vh, .int .i64 (64 : Int)]) hS rfl rfl Kn rfl rfl rfl rfl Tryd.sizeOf3 fun w Bs KD hS => qs <| qn <| sA hS rfl fun hS => ?_
   obtain ⟨Bt, K0, hS⟩ := hS.nilV 3 (ci .i64) 1
   refine qs <| zq (fun a w => ∃ (JZ : Option Addr) (Vc : Nat) (J9 : (List qa)) (Um : qj) (Un : qj) (Ub : Option Addr) (Ue : Nat) (Va : (List Int)) (V1 : qj), Ss 133 [⟨.fn (.func 18) ⟨[qp JQ 0, qp JW 0]⟩, ⟨[]⟩⟩] [(2, qp JQ 0), (3, qp JW 0), (8, .slice Ub Va.length Ue)] H [Un, Vq, Um, Vd, V1] F a w ∧ (zp 43 qa.cells 10 JZ J9 Vc Um) ∧ (zH Un JQ ([.int .i64 JT, .int .i64 JP, .int .u64 JR, .int .i64 JS, .slice Vi JO.length Vj, .slice JZ J9.length Vc]) 27) ∧ (zp 3 (ci .i64) 1 Ub Va Ue V1) ∧ (qu.j7 K JT JP JR JS JO J9 Va).wp kr Vr) (fun BO KP => ?_) ?_
   ·refine wp_seq ?_
    refine zI <| sO hS (qU rfl Tryd.runUnderlying52 rfl Tryd.sizeOf3 rfl) rfl fun hS => sO hS (zD 6 rfl VJ rfl rfl Tryd.isAgg3) rfl fun hS => sB hS rfl fun hS => sM hS rfl fun hS => qs <| yp <| zz (fun Kp a w => ∃ (Uy : Option Addr) (UC : Nat) (Ve : (List qa)) (Uj : qj) (Uk : qj) (VO : Int) (UE : qj) (Uz : Option Addr) (UD : Nat) (VA : (List Int)) (Ul : qj) (UG : Int), Ss 133 [⟨.fn (.func 18) ⟨[qp JQ 0, qp JW 0]⟩, ⟨[]⟩⟩] [(2, qp JQ 0), (3, qp JW 0), (4, qp Uc 0), (7, qp VZ 0), (8, .slice Uz VA.length UD), (66, .int .i64 (qM (J0 - (1 : Int)))), (67, .int .i64 UG)] H [Uk, Vq, Uj, Vd, VG, UE, Ul] F a w ∧ (zp 43 qa.cells 10 Uy Ve UC Uj) ∧ (zH Uk JQ ([.int .i64 JT, .int .i64 JP, .int .u64 JR, .int .i64 JS, .slice Vi JO.length Vj, .slice Uy Ve.length UC]) 27) ∧ (zH UE VZ ([qr Vg, .int .i64 Vh, .int .i64 VO]) 64) ∧ (zp 3 (ci .i64) 1 Uz VA UD Ul) ∧ (qu.l6 K J8 J0 JT JP JR JS Vg Vh JO Kp Ve VO VA UG).wp kr Vr) K ?_ ?_ ?_
    ·exact ⟨none, 0, ([] : List qa), Vx, VV, (64 : Int), Bs, none, 0, ([] : List Int), Bt, (0 : Int), hS.to [1, 2, 3, 4, 5, 7, 0] (by kernel_rfl) ⟨rfl, rfl, rfl, rfl, rfl, rfl, rfl, trivial⟩, UT, UO, KD, K0, hM⟩
    ·intro a w hI; obtain ⟨_, _, _, _, _, _, _, _, _, _, _, _, _, _, _, _, _, hM⟩ := hI; exact zA hM
    ·intro Kp a w hI BN KO
     obtain ⟨Uy, UC, Ve, Uj, Uk, VO, UE, Uz, UD, VA, Ul, UG, hS, UV, V4, KE, UW, hM⟩ := hI
     rw [qu.l6] at hM
     refine qn <| sB hS rfl fun hS => qs <| wp_seq <| qI hS rfl hM (fun K9 hM => ?_) (fun K9 hM => ?_)
     ·refine wp_skip ?_
      refine qi <| wp_seq <| yp <| qn <| sO hS (xR 4 rfl VX rfl ([qr J8, .int .i64 (0 : Int)]) rfl rfl Tryd.isAgg50 Tryd.sizeOf50) rfl fun hS => sM hS rfl fun hS => ql hS rfl Tryd.call26 (jP hG K (zh.mk (qq.mk J8 (0 : Int))) (qh.mk (qq.mk Vg Vh) VO) VZ UE KE (hS.st.part 1 [5, 0, 1, 2, 3, 4, 6] (by kernel_rfl)) (qf hM) (fun Vp Vo Vt Vu VB Vz Vy Vn Vw U2 U0 Kk w hM BA hst => qk hS.ev hst.appF rfl fun hS => ?_) (fun v w hk hst => zg (qv (jx (qv (qv (jx (qv (Vk _ _ _ _ _ _ _ _ _ _ _ _ hk (hS.env2 (e' := [(2, qp JQ 0), (3, qp JW 0)]) ⟨rfl, rfl, trivial⟩).ev V4 Vs (hst.appF.pick [0, 3] (by kernel_rfl)))))))))))
      replace hS : Ss _ _ _ H [Kk, Uk, Vq, Uj, Vd, VG, Ul] F _ _ := hS
      refine sM hS rfl fun hS => sO hS (ex rfl rfl) rfl fun hS => sO hS (ex rfl rfl) rfl fun hS => jY ([qr ([] : List UInt8), .int .i64 (0 : Int), .int .u64 (0 : Int), .int .u64 (0 : Int), qr ([] : List UInt8), .int .i64 (0 : Int), .int .i64 (0 : Int), .int .i64 (0 : Int), .int .u64 (0 : Int), .int .u64 (0 : Int)]) hS Tryd.zeroValue43 rfl rfl fun w BR B0 KF hS => jr 0 ([qr ([] : List UInt8), .int .i64 Vp, .int .u64 Vo, .int .u64 Vt, qr Vu, .int .i64 VB, .int .i64 Vz, .int .i64 Vy, .int .u64 Vn, .int .u64 Vw]) ([qr ([] : List UInt8), .int .i64 Vp, .int .u64 Vo, .int .u64 Vt, qr Vu, .int .i64 VB, .int .i64 Vz, .int .i64 Vy, .int .u64 Vn, .int .u64 Vw]) hS rfl rfl KF rfl rfl Tryd.sizeOf43 (by simp [Value.oneCell']) (Nat.le_of_ble_eq_true rfl) rfl fun w B1 KG hS => sA hS rfl fun hS => qs <| qn <| sO hS (qU rfl Tryd.runUnderlying27 rfl Tryd.sizeOf25 rfl) rfl fun hS => sO hS (zD 2 rfl V4 rfl rfl Tryd.isAgg25) rfl fun hS => sO hS (xR 0 rfl KG rfl ([qr ([] : List UInt8), .int .i64 Vp, .int .u64 Vo, .int .u64 Vt, qr Vu, .int .i64 VB, .int .i64 Vz, .int .i64 Vy, .int .u64 Vn, .int .u64 Vw]) rfl rfl Tryd.isAgg43 Tryd.sizeOf43) rfl fun hS => vQ (g := qa.cells) ([(qa.mk ([] : List UInt8) Vp Vo Vt Vu VB Vz Vy Vn Vw)] : List qa) [.agg ⟨[qr ([] : List UInt8), .int .i64 Vp, .int .u64 Vo, .int .u64 Vt, qr Vu, .int .i64 VB, .int .i64 Vz, .int .i64 Vy, .int .u64 Vn, .int .u64 Vw]⟩] hS Tryd.runUnderlying25 Tryd.sizeOf43 X.el43 rfl rfl rfl (by simp [Value.cells]) rfl rfl rfl rfl rfl fun w BI BS B2 K1 hS => ?_
      obtain ⟨Be, hM⟩ := qL hM
      refine Xr (ys := ([(qa.mk ([] : List UInt8) Vp Vo Vt Vu VB Vz Vy Vn Vw)] : List qa)) 5 hS rfl rfl UV rfl (K1.rd (i := 0) rfl) Tryd.runUnderlying25 Tryd.runUnderlying25 X.el43 (fun _ => rfl) rfl QT Be rfl fun Ka w Kd Kg Bu hz K2 hS => ?_
      have hM := qO hz hM; clear hz
      refine sO hS (qU rfl Tryd.runUnderlying27 rfl Tryd.sizeOf25 rfl) rfl fun hS => y3 3 ([.int .i64 JT, .int .i64 JP, .int .u64 JR, .int .i64 JS, .slice Vi JO.length Vj, .slice Kd Ka.length Kg]) hS rfl rfl V4 rfl rfl rfl rfl Tryd.sizeOf25 fun w Bv KH hS => qs <| zI <| sM hS rfl fun hS => sM hS rfl fun hS => vQ (g := (ci .i64)) ([U2] : List Int) [.int .i64 U2] hS Tryd.runUnderlying65 Tryd.sizeOf3 X.el3 rfl rfl rfl (by simp [Value.cells]) rfl rfl rfl rfl rfl fun w BJ BT B3 K3 hS => ?_
      obtain ⟨Bf, hM⟩ := qL hM
      refine Xr (ys := ([U2] : List Int)) 9 hS rfl rfl UW rfl (K3.rd (i := 0) rfl) Tryd.runUnderlying65 Tryd.runUnderlying65 X.el3 (fun _ => rfl) rfl XW Bf rfl fun Bj w Bk Bm Bw hz K4 hS => ?_
      have hM := qO hz hM; clear hz
      refine sA hS rfl fun hS => qN <| xr (qi ?_)
      refine zI <| sB hS rfl fun hS => sM hS rfl fun hS => qN <| qi ?_
      exact KO _ _ ⟨Kd, Kg, Ka, Bu, Bv, U0, Kk, Bk, Bm, Bj, Bw, (qM (UG + (1 : Int))), hS.to [4, 5, 6, 7, 8, 3, 9] (by kernel_rfl) ⟨rfl, rfl, rfl, rfl, rfl, rfl, rfl, trivial⟩, K2, KH, BA, K4, hM⟩
     ·refine wp_exit ?_
      refine qK (qK (zi (qi ?_)))
      exact KP _ _ ⟨Uy, UC, Ve, Uj, Uk, Uz, UD, VA, Ul, hS.to [0, 1, 2, 3, 6] (by kernel_rfl) ⟨rfl, rfl, rfl, trivial⟩, UV, V4, UW, hM⟩
   ·intro a w hI
    obtain ⟨JZ, Vc, J9, Um, Un, Ub, Ue, Va, V1, hS, V7, V5, UX, hM⟩ := hI
    rw [qu.j7] at hM
    refine qn <| sO hS (qU rfl Tryd.runUnderlying27 rfl Tryd.sizeOf25 rfl) rfl fun hS => sO hS (zD 0 rfl V5 rfl rfl Tryd.isAgg25) rfl fun hS => sO hS (xz rfl Tryd.runUnderlying25) rfl fun hS => sB hS rfl fun hS => zO (v := Value.int .i64) (x0 := (qM ((J9.length : Int) - (1 : Int)))) hS (xK rfl) rfl fun JU a w hz hS => ?_
    have hM := qO hz hM; clear hz
    refine qs <| qn <| sO hS (qU rfl Tryd.runUnderlying27 rfl Tryd.sizeOf25 rfl) rfl fun hS => sO hS (zD 0 rfl V5 rfl rfl Tryd.isAgg25) rfl fun hS => sM hS rfl fun hS => ?_
    obtain ⟨Us, hM⟩ := qL hM
    refine sO hS (vS rfl rfl Tryd.runUnderlying25 Tryd.sizeOf43 (V7.rd (i := 2) rfl) (fun _ => rfl) rfl Us) rfl fun hS => sO hS (Zs (sz := 10) rfl (V7.rd (i := 2) rfl) (fun _ => rfl) rfl Us Tryd.runUnderlying43 rfl Tryd.sizeOf3 rfl) rfl fun hS => sO hS (YL 1 rfl (V7.rd (i := 2) rfl) (fun _ => rfl) Us rfl Tryd.isAgg3) rfl fun hS => sB hS rfl fun hS => ql hS rfl Tryd.call23 (zX hG K ((rd J9 JU).Type_ != (3 : Int)) (3 : Int) (hS.st.part 0 [0, 1, 2, 3, 4] (by kernel_rfl)) (qf hM) (fun  w hM  hst => qk hS.ev hst.appF rfl fun hS => ?_) (fun v w hk hst => zg (qv (Vk _ _ _ _ _ _ _ _ _ _ _ _ hk (hS.env2 (e' := [(2, qp JQ 0), (3, qp JW 0)]) ⟨rfl, rfl, trivial⟩).ev V5 Vs (hst.appF.pick [0, 3] (by kernel_rfl))))))
    replace hS : Ss _ _ _ H [Un, Vq, Um, Vd, V1] F _ _ := hS
    refine qs <| zq (fun a w => ∃ (Vf : (List qa)) (Up : qj) (UF : qj), Ss 133 [⟨.fn (.func 18) ⟨[qp JQ 0, qp JW 0]⟩, ⟨[]⟩⟩] [(2, qp JQ 0), (3, qp JW 0), (11, .int .i64 JU)] H [UF, Vq, Up, Vd] F a w ∧ (zp 43 qa.cells 10 JZ Vf Vc Up) ∧ (zH UF JQ ([.int .i64 JT, .int .i64 JP, .int .u64 JR, .int .i64 JS, .slice Vi JO.length Vj, .slice JZ Vf.length Vc]) 27) ∧ (qu.j9 K JT JP JR JS JO JU Vf).wp kr Vr) (fun BQ KR => ?_) ?_
    ·refine wp_seq ?_
     refine zI <| sM hS rfl fun hS => sO hS (xz rfl Tryd.runUnderlying65) rfl fun hS => sM hS rfl fun hS => qs <| yp <| zz (fun Kq a w => ∃ (JN : (List qa)) (Uo : qj) (VW : qj) (Vb : Int), Ss 133 [⟨.fn (.func 18) ⟨[qp JQ 0, qp JW 0]⟩, ⟨[]⟩⟩] [(2, qp JQ 0), (3, qp JW 0), (11, .int .i64 JU), (98, .slice Ub Va.length Ue), (99, .int .i64 (Va.length : Int)), (100, .int .i64 Vb)] H [VW, Vq, Uo, Vd, V1] F a w ∧ (zp 43 qa.cells 10 JZ JN Vc Uo) ∧ (zH VW JQ ([.int .i64 JT, .int .i64 JP, .int .u64 JR, .int .i64 JS, .slice Vi JO.length Vj, .slice JZ JN.length Vc]) 27) ∧ (qu.l8 K JT JP JR JS JO Va JU Kq JN Vb).wp kr Vr) K ?_ ?_ ?_
     ·exact ⟨J9, Um, Un, (0 : Int), hS.to [0, 1, 2, 3, 4] (by kernel_rfl) ⟨rfl, rfl, rfl, rfl, rfl, rfl, trivial⟩, V7, V5, hM⟩
     ·intro a w hI; obtain ⟨_, _, _, _, _, _, _, hM⟩ := hI; exact zA hM
     ·intro Kq a w hI BP KQ
      obtain ⟨JN, Uo, VW, Vb, hS, VK, VQ, hM⟩ := hI
      rw [qu.l8] at hM
      refine qn <| sB hS rfl fun hS => qs <| wp_seq <| qI hS rfl hM (fun Ba hM => ?_) (fun Ba hM => ?_)
      ·refine wp_skip ?_
       refine qi <| wp_seq <| yp <| qn <| sM hS rfl fun hS => ?_
       obtain ⟨UY, hM⟩ := qL hM
       refine sO hS (vS rfl rfl Tryd.runUnderlying65 Tryd.sizeOf3 (UX.rd (i := 4) rfl) (fun _ => rfl) rfl UY) rfl fun hS => sO hS (uP rfl (UX.rd (i := 4) rfl) (fun _ => rfl) UY rfl Tryd.isAgg3) rfl fun hS => sA hS rfl fun hS => zO (v := Value.int .i64) (x0 := (rd Va Vb)) hS (xK rfl) rfl fun VM a w hz hS => ?_
       have hM := qO hz hM; clear hz
       refine qN <| qi ?_
       obtain ⟨Ut, hM⟩ := qL hM
       refine qR (vals := [some (qp JQ 5), some (.slice JZ JN.length Vc), some (.int .i64 Vb), some (qp JQ 5), some (.slice JZ JN.length Vc), some (.int .i64 JU), some (jK JZ (Int.toNat JU * 10)), some (jK JZ (Int.toNat JU * 10 + 4)), some (qr ((rd JN JU).Data_)), some (.int .i64 VM), none, none, none, none]) hS xe rfl ?_
       intro l w ho hcl hA hst
       refine yA hA hst ho hcl zU xf 10 [0, 1, 2, 3, 4, 5, 6, 7, 8, 9] rfl rfl rfl rfl rfl (by exact ⟨nQ rfl (by exact qH (qU rfl Tryd.runUnderlying27 rfl Tryd.sizeOf25 rfl) rfl), nQ rfl (by exact qH (zD 0 rfl VQ rfl rfl Tryd.isAgg25) rfl), nM rfl, nQ rfl (by exact qH (qU rfl Tryd.runUnderlying27 rfl Tryd.sizeOf25 rfl) rfl), nQ rfl (by exact qH (zD 0 rfl VQ rfl rfl Tryd.isAgg25) rfl), nM rfl, nQ rfl (by exact qH (vS rfl rfl Tryd.runUnderlying25 Tryd.sizeOf43 (VK.rd (i := 2) rfl) (fun _ => rfl) rfl Ut) rfl), nQ rfl (by exact qH (Zs (sz := 10) rfl (VK.rd (i := 2) rfl) (fun _ => rfl) rfl Ut Tryd.runUnderlying43 rfl Tryd.sizeOf9 rfl) rfl), nQ rfl (by exact qH (YL 4 rfl (VK.rd (i := 2) rfl) (fun _ => rfl) Ut rfl Tryd.isAgg9) rfl), nM rfl, trivial⟩) fun D l a w ho hcl hav hpre hm hE hk hA hst => ?_
       have hS := (Ss.mk hE hst).env2 (e' := [(2, qp JQ 0), (3, qp JW 0), (113, qr ((rd JN JU).Data_)), (114, .int .i64 VM)]) ⟨rfl, rfl, rfl, rfl, trivial⟩
       refine qy rfl <| ql hS rfl Tryd.call27 (u3 hG K ((rd JN JU).Data_) VM (hS.st.part 0 [0, 1, 2, 3, 4] (by kernel_rfl)) (qf hM) (fun Ur w hM  hst => qk hS.ev hst.appF rfl fun hS => ?_) (fun v w hk hst => zg (qv (jx (qv (qv (jx (qv (Vk _ _ _ _ _ _ _ _ _ _ _ _ hk (hS.env2 (e' := [(2, qp JQ 0), (3, qp JW 0)]) ⟨rfl, rfl, trivial⟩).ev VQ Vs (hst.appF.pick [0, 3] (by kernel_rfl)))))))))))
       replace hS : Ss _ _ _ H [VW, Vq, Uo, Vd, V1] F _ _ := hS
       refine qs ?_
       replace hst := hS.st
       obtain ⟨Uu, hM⟩ := qL hM
       obtain ⟨hcl, hmust, hav2, hA⟩ := dn (vals' := [some (qp JQ 5), some (.slice JZ JN.length Vc), some (.int .i64 Vb), some (qp JQ 5), some (.slice JZ JN.length Vc), some (.int .i64 JU), some (jK JZ (Int.toNat JU * 10)), some (jK JZ (Int.toNat JU * 10 + 4)), some (qr ((rd JN JU).Data_)), some (.int .i64 VM), some (qr Ur), some (jK JZ (Int.toNat Vb * 10)), some (jK JZ (Int.toNat Vb * 10 + 0)), none]) 10 [(8, 10), (9, 10), (7, 8), (6, 7), (4, 6), (5, 6), (3, 4)] hA hcl hav hm hpre hk rfl rfl rfl rfl rfl rfl rfl
       clear hm hav
       refine yA hA hst ho hcl hav2 hmust 13 [0, 1, 2, 11, 12] rfl rfl rfl rfl rfl (by exact ⟨nQ rfl (by exact qH (qU rfl Tryd.runUnderlying27 rfl Tryd.sizeOf25 rfl) rfl), nQ rfl (by exact qH (zD 0 rfl VQ rfl rfl Tryd.isAgg25) rfl), nM rfl, nQ rfl (by exact qH (vS rfl rfl Tryd.runUnderlying25 Tryd.sizeOf43 (VK.rd (i := 2) rfl) (fun _ => rfl) rfl Uu) rfl), nQ rfl (by exact qH (Zs (sz := 10) rfl (VK.rd (i := 2) rfl) (fun _ => rfl) rfl Uu Tryd.runUnderlying43 rfl Tryd.sizeOf9 rfl) rfl), trivial⟩) fun D l a w ho hcl hav hpre hm hE hk hA hst => ?_
       have hS := (Ss.mk hE hst).env2 (e' := [(2, qp JQ 0), (3, qp JW 0), (115, qr Ur), (117, jK JZ (Int.toNat Vb * 10 + 0))]) ⟨rfl, rfl, rfl, rfl, trivial⟩
       refine qy rfl <| Ja (i := Vb) (sz := 10) 2 0 ((qa.mk Ur ((rd JN Vb).Type_) ((rd JN Vb).Flags_) ((rd JN Vb).Addr_) ((rd JN Vb).Data_) ((rd JN Vb).Size_) ((rd JN Vb).Link_) ((rd JN Vb).Info_) ((rd JN Vb).Align_) ((rd JN Vb).Each_))) hS rfl rfl VK rfl Tryd.sizeOf9 (ZH Ur) (fun _ => rfl) Uu rfl rfl fun Kb w Bx hz Bi K5 hS => ?_
       have hM := qO hz hM; clear hz
       have KI : zH VW JQ ([.int .i64 JT, .int .i64 JP, .int .u64 JR, .int .i64 JS, .slice Vi JO.length Vj, .slice JZ Kb.length Vc]) 27 := by rw [Bi]; exact VQ
       refine qs ?_
       replace hst := hS.st
       obtain ⟨hcl, hmust, hav2, hA⟩ := Yb (vals' := [some (qp JQ 5), some (.slice JZ JN.length Vc), some (.int .i64 Vb), some (qp JQ 5), some (.slice JZ JN.length Vc), some (.int .i64 JU), some (jK JZ (Int.toNat JU * 10)), some (jK JZ (Int.toNat JU * 10 + 4)), some (qr ((rd JN JU).Data_)), some (.int .i64 VM), some (qr Ur), some (jK JZ (Int.toNat Vb * 10)), some (jK JZ (Int.toNat Vb * 10 + 0)), some undef]) 13 [(0, 13), (1, 13), (2, 13), (3, 13), (4, 13), (5, 13), (6, 13), (7, 13), (8, 13), (9, 13), (10, 13), (12, 13), (11, 12)] hA hcl hav hm hpre rfl rfl rfl rfl rfl
       clear hm hav
       refine xL hA hst ho hcl hmust [] rfl rfl rfl trivial fun a w hS => ?_
       replace hS := hS.env2 (e' := [(2, qp JQ 0), (3, qp JW 0), (11, .int .i64 JU), (98, .slice Ub Va.length Ue), (99, .int .i64 (Va.length : Int)), (100, .int .i64 Vb)]) ⟨rfl, rfl, rfl, rfl, rfl, rfl, trivial⟩
       refine xr (qi ?_)
       refine zI <| sB hS rfl fun hS => sM hS rfl fun hS => qN <| qi ?_
       exact KQ _ _ ⟨Kb, Bx, VW, (qM (Vb + (1 : Int))), hS.to [0, 1, 2, 3, 4] (by kernel_rfl) ⟨rfl, rfl, rfl, rfl, rfl, rfl, trivial⟩, K5, KI, hM⟩
      ·refine wp_exit ?_
       refine qK (qK (zi (qi ?_)))
       exact KR _ _ ⟨JN, Uo, VW, hS.to [0, 1, 2, 3] (by kernel_rfl) ⟨rfl, rfl, rfl, trivial⟩, VK, VQ, hM⟩
    ·intro a w hI
     obtain ⟨Vf, Up, UF, hS, V8, V6, hM⟩ := hI
     rw [qu.j9] at hM
     refine qn <| sO hS (qU rfl Tryd.runUnderlying27 rfl Tryd.sizeOf25 rfl) rfl fun hS => sO hS (zD 0 rfl V6 rfl rfl Tryd.isAgg25) rfl fun hS => sM hS rfl fun hS => ?_
     obtain ⟨Uv, hM⟩ := qL hM
     refine sO hS (vS rfl rfl Tryd.runUnderlying25 Tryd.sizeOf43 (V8.rd (i := 2) rfl) (fun _ => rfl) rfl Uv) rfl fun hS => sO hS (Zs (sz := 10) rfl (V8.rd (i := 2) rfl) (fun _ => rfl) rfl Uv Tryd.runUnderlying43 rfl Tryd.sizeOf9 rfl) rfl fun hS => sO hS (YL 0 rfl (V8.rd (i := 2) rfl) (fun _ => rfl) Uv rfl Tryd.isAgg9) rfl fun hS => sO hS (vW rfl rfl rfl) rfl fun hS => ql hS rfl Tryd.call23 (zX hG K (!((rd Vf JU).Name_ == ([46, 115, 104, 115, 116, 114, 116, 97, 98] : List UInt8))) (3 : Int) (hS.st.part 0 [0, 1, 2, 3] (by kernel_rfl)) (qf hM) (fun  w hM  hst => qk hS.ev hst.appF rfl fun hS => ?_) (fun v w hk hst => zg (qv (Vk _ _ _ _ _ _ _ _ _ _ _ _ hk (hS.env2 (e' := [(2, qp JQ 0), (3, qp JW 0)]) ⟨rfl, rfl, trivial⟩).ev V6 Vs (hst.appF.pick [0, 3] (by kernel_rfl))))))
     replace hS : Ss _ _ _ H [UF, Vq, Up, Vd] F _ _ := hS
     refine qs <| qn <| sO hS (qU rfl Tryd.runUnderlying27 rfl Tryd.sizeOf25 rfl) rfl fun hS => sO hS (zD 0 rfl V6 rfl rfl Tryd.isAgg25) rfl fun hS => sM hS rfl fun hS => ?_
     obtain ⟨Bg, hM⟩ := qL hM
     refine Yz hS rfl V8 Tryd.runUnderlying25 Tryd.sizeOf43 (QQ rfl) (fun _ => rfl) rfl Bg rfl fun VL w hz K6 hS => ?_
     have hM := qO hz hM; clear hz
     refine sO hS (qU rfl Tryd.runUnderlying27 rfl Tryd.sizeOf25 rfl) rfl fun hS => y3 0 ([.int .i64 JT, .int .i64 JP, .int .u64 JR, .int .i64 JS, .slice Vi JO.length Vj, .slice JZ VL.length Vc]) hS rfl rfl V6 rfl rfl rfl rfl Tryd.sizeOf25 fun w B4 UP hS => qs <| qn <| sO hS (xR 0 rfl UP rfl ([.int .i64 JT, .int .i64 JP, .int .u64 JR, .int .i64 JS, .slice Vi JO.length Vj, .slice JZ VL.length Vc]) rfl rfl Tryd.isAgg27 Tryd.sizeOf27) rfl fun hS => jr 0 ([.int .i64 JT, .int .i64 JP, .int .u64 JR, .int .i64 JS, .slice Vi JO.length Vj, .slice JZ VL.length Vc]) ([.int .i64 JT, .int .i64 JP, .int .u64 JR, .int .i64 JS, .slice Vi JO.length Vj, .slice JZ VL.length Vc]) hS rfl rfl UP rfl rfl Tryd.sizeOf27 (by simp [Value.oneCell']) (Nat.le_of_ble_eq_true rfl) rfl fun w B5 KJ hS => y3 3 ([.int .i64 (0 : Int)]) hS rfl rfl Vs rfl rfl rfl rfl Tryd.sizeOf28 fun w B6 KK hS => qs <| wp_ret ?_
     have KL := hS.ev
     refine X3 hS Tryd.call18 Tryd.func18 rfl Tryd.ntmps18 rfl rfl rfl fun a w hS => qn <| sM hS rfl fun hS => sO hS (Jy .neq rfl Tryd.runUnderlying20 rfl) rfl fun hS => qs <| yC hS rfl <| wp_skip ?_
     exact Xu hS rfl (uE (vs := [.agg ⟨[.int .i64 JT, .int .i64 JP, .int .u64 JR, .int .i64 JS, .slice Vi JO.length Vj, .slice JZ VL.length Vc]⟩, .int .i64 (0 : Int)]) KL hS.st rfl (by exact ⟨uZ 0 ([.int .i64 JT, .int .i64 JP, .int .u64 JR, .int .i64 JS, .slice Vi JO.length Vj, .slice JZ VL.length Vc]) rfl KJ rfl rfl rfl Tryd.isAgg27 Tryd.sizeOf27, Jp 3 rfl KK rfl rfl Tryd.isAgg28, trivial⟩) (hret JT JP JR JS Vi Vj JO Vq JZ Vc VL Up (0 : Int) _ (qC hM) KZ K6 (hS.st.pick [1, 2] (by kernel_rfl))))
theorem yQ {H : zB} {F : List qj} {w : World} {R : Ending → World → Prop} {kr : Bool → Prop} {kp : Value → Prop} (hG : Gl H) (K : Nat) (JN : qJ) (JO : qJ) (JV : Option Addr) (JZ : Nat) (JW : Option Addr) (J0 : Nat) (JX : Option Addr) (J1 : Nat) (JY : Option Addr) (J2 : Nat) (J9 : yT H [] F qb.cells JV JN.Segments_) (Vq : JN.Segments_.length ≤ JZ) (Va : yT H [] F qa.cells JW JN.Sections_) (Vr : JN.Sections_.length ≤ J0) (Vb : yT H [] F qb.cells JX JO.Segments_) (Vs : JO.Segments_.length ≤ J1) (Vc : yT H [] F qa.cells JY JO.Sections_) (Vt : JO.Sections_.length ≤ J2)
    (hS : St w H [] F) (hm : (qt.m K JN JO).wp kr kp)
    (hret : ∀ (Vf : Bool) (w : World), kr Vf → St w H [] F → R (.returned (.bool Vf)) w) :
    Calls Tryd.prog 12 ⟨[.agg ⟨[.int .i64 JN.Type_, .int .i64 JN.Machine_, .int .u64 JN.Entry_, .int .i64 JN.Flags_, .slice JV JN.Segments_.length JZ, .slice JW JN.Sections_.length J0]⟩, .agg ⟨[.int .i64 JO.Type_, .int .i64 JO.Machine_, .int .u64 JO.Entry_, .int .i64 JO.Flags_, .slice JX JO.Segments_.length J1, .slice JY JO.Sections_.length J2]⟩]⟩ w R := by
 refine enter Tryd.func12 rfl Tryd.ntmps12 rfl hS fun a w hS => ?_
 have hM := hm; clear hm
 rw [qt.m] at hM
 refine qn <| bx ([.int .i64 JN.Type_, .int .i64 JN.Machine_, .int .u64 JN.Entry_, .int .i64 JN.Flags_, .slice JV JN.Segments_.length JZ, .slice JW JN.Sections_.length J0]) hS rfl rfl rfl fun w JT J3 JR hS => bx ([.int .i64 JO.Type_, .int .i64 JO.Machine_, .int .u64 JO.Entry_, .int .i64 JO.Flags_, .slice JX JO.Segments_.length J1, .slice JY JO.Sections_.length J2]) hS rfl rfl rfl fun w JU J4 JS hS => sA hS rfl fun hS => qs <| wp_seq <| qn <| sO hS (qU rfl Tryd.runUnderlying27 rfl Tryd.sizeOf3 rfl) rfl fun hS => sO hS (zD 1 rfl JR rfl rfl Tryd.isAgg3) rfl fun hS => sO hS (qU rfl Tryd.runUnderlying27 rfl Tryd.sizeOf3 rfl) rfl fun hS => sO hS (zD 0 rfl JS rfl rfl Tryd.isAgg3) rfl fun hS => sB hS rfl fun hS => sM hS rfl fun hS => xy 5 false 12 (b := (JN.Type_ != JO.Type_)) (r := (JN.Machine_ != JO.Machine_)) hS rfl rfl rfl rfl rfl rfl rfl (fun hb a w hS K hK => ?_) rfl fun a w hS => ?_
 ·refine qw hS rfl rfl rfl hb (qU rfl Tryd.runUnderlying27 rfl Tryd.sizeOf3 rfl) rfl fun a w hS => ?_
  refine qw hS rfl rfl rfl hb (zD 1 rfl JR rfl rfl Tryd.isAgg3) rfl fun a w hS => qw hS rfl rfl rfl hb (qU rfl Tryd.runUnderlying27 rfl Tryd.sizeOf3 rfl) rfl fun a w hS => qw hS rfl rfl rfl hb (zD 0 rfl JS rfl rfl Tryd.isAgg3) rfl fun a w hS => qw hS rfl rfl rfl hb (x6 rfl rfl rfl) rfl fun a w hS => ?_
  exact qN (hK _ _ (hS.up 5 rfl rfl))
 refine sM hS rfl fun hS => xy 5 false 19 (b := ((JN.Type_ != JO.Type_) || (JN.Machine_ != JO.Machine_))) (r := (JN.Entry_ != JO.Entry_)) hS rfl rfl rfl rfl rfl rfl rfl (fun hb a w hS K hK => ?_) rfl fun a w hS => ?_
 ·refine qw hS rfl rfl rfl hb (qU rfl Tryd.runUnderlying27 rfl Tryd.sizeOf23 rfl) rfl fun a w hS => ?_
  refine qw hS rfl rfl rfl hb (zD 1 rfl JR rfl rfl Tryd.isAgg23) rfl fun a w hS => qw hS rfl rfl rfl hb (qU rfl Tryd.runUnderlying27 rfl Tryd.sizeOf23 rfl) rfl fun a w hS => qw hS rfl rfl rfl hb (zD 0 rfl JS rfl rfl Tryd.isAgg23) rfl fun a w hS => qw hS rfl rfl rfl hb (x6 rfl rfl rfl) rfl fun a w hS => ?_
  exact qN (hK _ _ (hS.up 5 rfl rfl))
 refine sM hS rfl fun hS => xy 5 false 26 (b := (((JN.Type_ != JO.Type_) || (JN.Machine_ != JO.Machine_)) || (JN.Entry_ != JO.Entry_))) (r := (JN.Flags_ != JO.Flags_)) hS rfl rfl rfl rfl rfl rfl rfl (fun hb a w hS K hK => ?_) rfl fun a w hS => ?_
 ·refine qw hS rfl rfl rfl hb (qU rfl Tryd.runUnderlying27 rfl Tryd.sizeOf3 rfl) rfl fun a w hS => ?_
  refine qw hS rfl rfl rfl hb (zD 1 rfl JR rfl rfl Tryd.isAgg3) rfl fun a w hS => qw hS rfl rfl rfl hb (qU rfl Tryd.runUnderlying27 rfl Tryd.sizeOf3 rfl) rfl fun a w hS => qw hS rfl rfl rfl hb (zD 0 rfl JS rfl rfl Tryd.isAgg3) rfl fun a w hS => qw hS rfl rfl rfl hb (x6 rfl rfl rfl) rfl fun a w hS => ?_
  exact qN (hK _ _ (hS.up 5 rfl rfl))
 refine sM hS rfl fun hS => xy 7 false 33 (b := ((((JN.Type_ != JO.Type_) || (JN.Machine_ != JO.Machine_)) || (JN.Entry_ != JO.Entry_)) || (JN.Flags_ != JO.Flags_))) (r := ((JN.Segments_.length : Int) != (JO.Segments_.length : Int))) hS rfl rfl rfl rfl rfl rfl rfl (fun hb a w hS K hK => ?_) rfl fun a w hS => ?_
 ·refine qw hS rfl rfl rfl hb (qU rfl Tryd.runUnderlying27 rfl Tryd.sizeOf24 rfl) rfl fun a w hS => ?_
  refine qw hS rfl rfl rfl hb (zD 1 rfl JR rfl rfl Tryd.isAgg24) rfl fun a w hS => qw hS rfl rfl rfl hb (xz rfl Tryd.runUnderlying24) rfl fun a w hS => qw hS rfl rfl rfl hb (qU rfl Tryd.runUnderlying27 rfl Tryd.sizeOf24 rfl) rfl fun a w hS => qw hS rfl rfl rfl hb (zD 0 rfl JS rfl rfl Tryd.isAgg24) rfl fun a w hS => qw hS rfl rfl rfl hb (xz rfl Tryd.runUnderlying24) rfl fun a w hS => qw hS rfl rfl rfl hb (x6 rfl rfl rfl) rfl fun a w hS => ?_
  exact qN (hK _ _ (hS.up 7 rfl rfl))
 refine sM hS rfl fun hS => xy 7 false 42 (b := (((((JN.Type_ != JO.Type_) || (JN.Machine_ != JO.Machine_)) || (JN.Entry_ != JO.Entry_)) || (JN.Flags_ != JO.Flags_)) || ((JN.Segments_.length : Int) != (JO.Segments_.length : Int)))) (r := ((JN.Sections_.length : Int) != (JO.Sections_.length : Int))) hS rfl rfl rfl rfl rfl rfl rfl (fun hb a w hS K hK => ?_) rfl fun a w hS => ?_
 ·refine qw hS rfl rfl rfl hb (qU rfl Tryd.runUnderlying27 rfl Tryd.sizeOf25 rfl) rfl fun a w hS => ?_
  refine qw hS rfl rfl rfl hb (zD 1 rfl JR rfl rfl Tryd.isAgg25) rfl fun a w hS => qw hS rfl rfl rfl hb (xz rfl Tryd.runUnderlying25) rfl fun a w hS => qw hS rfl rfl rfl hb (qU rfl Tryd.runUnderlying27 rfl Tryd.sizeOf25 rfl) rfl fun a w hS => qw hS rfl rfl rfl hb (zD 0 rfl JS rfl rfl Tryd.isAgg25) rfl fun a w hS => qw hS rfl rfl rfl hb (xz rfl Tryd.runUnderlying25) rfl fun a w hS => qw hS rfl rfl rfl hb (x6 rfl rfl rfl) rfl fun a w hS => ?_
  exact qN (hK _ _ (hS.up 7 rfl rfl))
 refine qs <| qI hS rfl hM (fun Vj hM => ?_) (fun Vj hM => ?_)
 ·refine wp_seq ?_
  refine zI <| sA hS rfl fun hS => qs <| wp_ret <| qx ?_
  exact qT (rs := [4]) hS rfl rfl (hret false _ (qC hM) (hS.st.pick [] (by kernel_rfl)))
 ·refine wp_skip ?_
  refine qi <| zq (fun a w => Ss 87 [] [(2, qp JT 0), (3, qp JU 0)] H [J3, J4] F a w ∧ (qt.j2 K JN JO).wp kr kp) (fun Vv Vh => ?_) ?_
  ·refine wp_seq ?_
   refine zI <| sA hS rfl fun hS => qs <| yp <| zz (fun Vd a w => ∃ (JQ : Int), Ss 87 [] [(2, qp JT 0), (3, qp JU 0), (5, .int .i64 JQ)] H [J3, J4] F a w ∧ (qt.l1 K JN JO Vd JQ).wp kr kp) K ?_ ?_ ?_
   ·exact ⟨(0 : Int), hS.to [1, 0] (by kernel_rfl) ⟨rfl, rfl, rfl, trivial⟩, hM⟩
   ·intro a w hI; obtain ⟨_, _, hM⟩ := hI; exact zA hM
   ·intro Vd a w hI Vu Vg
    obtain ⟨JQ, hS, hM⟩ := hI
    rw [qt.l1] at hM
    refine wp_seq <| qn <| sM hS rfl fun hS => sO hS (qU rfl Tryd.runUnderlying27 rfl Tryd.sizeOf24 rfl) rfl fun hS => sO hS (zD 0 rfl JR rfl rfl Tryd.isAgg24) rfl fun hS => sO hS (xz rfl Tryd.runUnderlying24) rfl fun hS => sB hS rfl fun hS => qs <| qI hS rfl hM (fun Vk hM => ?_) (fun Vk hM => ?_)
    ·refine wp_skip ?_
     refine qi <| wp_seq <| yp <| wp_seq ?_
     obtain ⟨J5, hM⟩ := qL hM
     obtain ⟨J6, hM⟩ := qL hM
     refine qR (vals := [some (qp JT 4), some (.slice JV JN.Segments_.length JZ), some (.int .i64 JQ), some (jK JV (Int.toNat JQ * 8)), some (.agg ⟨[.int .i64 ((rd JN.Segments_ JQ).Type_), .int .i64 ((rd JN.Segments_ JQ).Flags_), .int .i64 ((rd JN.Segments_ JQ).Offset_), .int .u64 ((rd JN.Segments_ JQ).Vaddr_), .int .u64 ((rd JN.Segments_ JQ).Paddr_), .int .i64 ((rd JN.Segments_ JQ).Filesz_), .int .u64 ((rd JN.Segments_ JQ).Memsz_), .int .u64 ((rd JN.Segments_ JQ).Align_)]⟩), some (qp JU 4), some (.slice JX JO.Segments_.length J1), some (.int .i64 JQ), some (jK JX (Int.toNat JQ * 8)), some (.agg ⟨[.int .i64 ((rd JO.Segments_ JQ).Type_), .int .i64 ((rd JO.Segments_ JQ).Flags_), .int .i64 ((rd JO.Segments_ JQ).Offset_), .int .u64 ((rd JO.Segments_ JQ).Vaddr_), .int .u64 ((rd JO.Segments_ JQ).Paddr_), .int .i64 ((rd JO.Segments_ JQ).Filesz_), .int .u64 ((rd JO.Segments_ JQ).Memsz_), .int .u64 ((rd JO.Segments_ JQ).Align_)]⟩), some (.bool (!(((rd JN.Segments_ JQ).Type_ == (rd JO.Segments_ JQ).Type_) && (((rd JN.Segments_ JQ).Flags_ == (rd JO.Segments_ JQ).Flags_) && (((rd JN.Segments_ JQ).Offset_ == (rd JO.Segments_ JQ).Offset_) && (((rd JN.Segments_ JQ).Vaddr_ == (rd JO.Segments_ JQ).Vaddr_) && (((rd JN.Segments_ JQ).Paddr_ == (rd JO.Segments_ JQ).Paddr_) && (((rd JN.Segments_ JQ).Filesz_ == (rd JO.Segments_ JQ).Filesz_) && (((rd JN.Segments_ JQ).Memsz_ == (rd JO.Segments_ JQ).Memsz_) && (((rd JN.Segments_ JQ).Align_ == (rd JO.Segments_ JQ).Align_) && true))))))))))]) hS xe rfl ?_
     intro l w ho hcl hA hst
     refine xL hA hst ho hcl xf [0, 1, 2, 3, 4, 5, 6, 7, 8, 9, 10] rfl rfl rfl (by exact ⟨nQ rfl (by exact qH (qU rfl Tryd.runUnderlying27 rfl Tryd.sizeOf24 rfl) rfl), nQ rfl (by exact qH (zD 0 rfl JR rfl rfl Tryd.isAgg24) rfl), nM rfl, nQ rfl (by exact qH (vS rfl rfl Tryd.runUnderlying24 Tryd.sizeOf58 J9.wk (fun _ => rfl) rfl J5) rfl), nQ rfl (by exact qH (uQ rfl J9.wk (fun _ => rfl) J5 Tryd.isAgg58 Tryd.sizeOf58 rfl) rfl), nQ rfl (by exact qH (qU rfl Tryd.runUnderlying27 rfl Tryd.sizeOf24 rfl) rfl), nQ rfl (by exact qH (zD 1 rfl JS rfl rfl Tryd.isAgg24) rfl), nM rfl, nQ rfl (by exact qH (vS rfl rfl Tryd.runUnderlying24 Tryd.sizeOf58 Vb.wk (fun _ => rfl) rfl J6) rfl), nQ rfl (by exact qH (uQ rfl Vb.wk (fun _ => rfl) J6 Tryd.isAgg58 Tryd.sizeOf58 rfl) rfl), nQ rfl (by exact qH (Xv rfl rfl rfl (by kernel_rfl) (by kernel_rfl) (z2.cons (by decide) Tryd.isAgg3 rfl rfl (Qq Tryd.runUnderlying3) (z2.cons (by decide) Tryd.isAgg3 rfl rfl (Qq Tryd.runUnderlying3) (z2.cons (by decide) Tryd.isAgg3 rfl rfl (Qq Tryd.runUnderlying3) (z2.cons (by decide) Tryd.isAgg23 rfl rfl (Qq Tryd.runUnderlying23) (z2.cons (by decide) Tryd.isAgg23 rfl rfl (Qq Tryd.runUnderlying23) (z2.cons (by decide) Tryd.isAgg3 rfl rfl (Qq Tryd.runUnderlying3) (z2.cons (by decide) Tryd.isAgg23 rfl rfl (Qq Tryd.runUnderlying23) (z2.cons (by decide) Tryd.isAgg23 rfl rfl (Qq Tryd.runUnderlying23) z2.nil)))))))) rfl) rfl), trivial⟩) fun a w hS => ?_
     replace hS := hS.env2 (e' := [(2, qp JT 0), (3, qp JU 0), (5, .int .i64 JQ), (68, .bool (!(((rd JN.Segments_ JQ).Type_ == (rd JO.Segments_ JQ).Type_) && (((rd JN.Segments_ JQ).Flags_ == (rd JO.Segments_ JQ).Flags_) && (((rd JN.Segments_ JQ).Offset_ == (rd JO.Segments_ JQ).Offset_) && (((rd JN.Segments_ JQ).Vaddr_ == (rd JO.Segments_ JQ).Vaddr_) && (((rd JN.Segments_ JQ).Paddr_ == (rd JO.Segments_ JQ).Paddr_) && (((rd JN.Segments_ JQ).Filesz_ == (rd JO.Segments_ JQ).Filesz_) && (((rd JN.Segments_ JQ).Memsz_ == (rd JO.Segments_ JQ).Memsz_) && (((rd JN.Segments_ JQ).Align_ == (rd JO.Segments_ JQ).Align_) && true))))))))))]) ⟨rfl, rfl, rfl, rfl, trivial⟩
     refine qi <| qI hS rfl hM (fun Vl hM => ?_) (fun Vl hM => ?_)
     ·refine wp_seq ?_
      refine zI <| sA hS rfl fun hS => qs <| wp_ret <| zK (qx (qx (zK (qx ?_))))
      exact qT (rs := [4]) hS rfl rfl (hret false _ (qC hM) (hS.st.pick [] (by kernel_rfl)))
     ·refine wp_skip ?_
      refine xr (qi ?_)
      refine zI <| sM hS rfl fun hS => sB hS rfl fun hS => zO (v := Value.int .i64) (x0 := (qM (JQ + (1 : Int)))) hS (xK rfl) rfl fun Vo a w hz hS => ?_
      have hM := qO hz hM; clear hz
      refine qN <| qi ?_
      exact Vg _ _ ⟨Vo, hS.to [0, 1] (by kernel_rfl) ⟨rfl, rfl, rfl, trivial⟩, hM⟩
    ·refine wp_exit ?_
     refine qK (qK (zi (qi ?_)))
     exact Vh _ _ ⟨hS.to [0, 1] (by kernel_rfl) ⟨rfl, rfl, trivial⟩, hM⟩
  ·intro a w hI
   obtain ⟨hS, hM⟩ := hI
   rw [qt.j2] at hM
   refine wp_seq <| qn <| sA hS rfl fun hS => qs <| yp <| zz (fun Ve a w => ∃ (JP : Int), Ss 87 [] [(2, qp JT 0), (3, qp JU 0), (6, .int .i64 JP)] H [J3, J4] F a w ∧ (qt.l3 K JN JO Ve JP).wp kr kp) K ?_ ?_ ?_
   ·exact ⟨(0 : Int), hS.to [0, 1] (by kernel_rfl) ⟨rfl, rfl, rfl, trivial⟩, hM⟩
   ·intro a w hI; obtain ⟨_, _, hM⟩ := hI; exact zA hM
   ·intro Ve a w hI Vw Vi
    obtain ⟨JP, hS, hM⟩ := hI
    rw [qt.l3] at hM
    refine wp_seq <| qn <| sM hS rfl fun hS => sO hS (qU rfl Tryd.runUnderlying27 rfl Tryd.sizeOf25 rfl) rfl fun hS => sO hS (zD 0 rfl JR rfl rfl Tryd.isAgg25) rfl fun hS => sO hS (xz rfl Tryd.runUnderlying25) rfl fun hS => sB hS rfl fun hS => qs <| qI hS rfl hM (fun Vm hM => ?_) (fun Vm hM => ?_)
    ·refine wp_skip ?_
     refine qi <| wp_seq <| yp <| wp_seq ?_
     obtain ⟨J7, hM⟩ := qL hM
     obtain ⟨J8, hM⟩ := qL hM
     refine qR (vals := [some (qp JT 5), some (.slice JW JN.Sections_.length J0), some (.int .i64 JP), some (jK JW (Int.toNat JP * 10)), some (.agg ⟨[qr ((rd JN.Sections_ JP).Name_), .int .i64 ((rd JN.Sections_ JP).Type_), .int .u64 ((rd JN.Sections_ JP).Flags_), .int .u64 ((rd JN.Sections_ JP).Addr_), qr ((rd JN.Sections_ JP).Data_), .int .i64 ((rd JN.Sections_ JP).Size_), .int .i64 ((rd JN.Sections_ JP).Link_), .int .i64 ((rd JN.Sections_ JP).Info_), .int .u64 ((rd JN.Sections_ JP).Align_), .int .u64 ((rd JN.Sections_ JP).Each_)]⟩), some (qp JU 5), some (.slice JY JO.Sections_.length J2), some (.int .i64 JP), some (jK JY (Int.toNat JP * 10)), some (.agg ⟨[qr ((rd JO.Sections_ JP).Name_), .int .i64 ((rd JO.Sections_ JP).Type_), .int .u64 ((rd JO.Sections_ JP).Flags_), .int .u64 ((rd JO.Sections_ JP).Addr_), qr ((rd JO.Sections_ JP).Data_), .int .i64 ((rd JO.Sections_ JP).Size_), .int .i64 ((rd JO.Sections_ JP).Link_), .int .i64 ((rd JO.Sections_ JP).Info_), .int .u64 ((rd JO.Sections_ JP).Align_), .int .u64 ((rd JO.Sections_ JP).Each_)]⟩), some (.bool (!(((rd JN.Sections_ JP).Name_ == (rd JO.Sections_ JP).Name_) && (((rd JN.Sections_ JP).Type_ == (rd JO.Sections_ JP).Type_) && (((rd JN.Sections_ JP).Flags_ == (rd JO.Sections_ JP).Flags_) && (((rd JN.Sections_ JP).Addr_ == (rd JO.Sections_ JP).Addr_) && (((rd JN.Sections_ JP).Data_ == (rd JO.Sections_ JP).Data_) && (((rd JN.Sections_ JP).Size_ == (rd JO.Sections_ JP).Size_) && (((rd JN.Sections_ JP).Link_ == (rd JO.Sections_ JP).Link_) && (((rd JN.Sections_ JP).Info_ == (rd JO.Sections_ JP).Info_) && (((rd JN.Sections_ JP).Align_ == (rd JO.Sections_ JP).Align_) && (((rd JN.Sections_ JP).Each_ == (rd JO.Sections_ JP).Each_) && true))))))))))))]) hS xe rfl ?_
     intro l w ho hcl hA hst
     refine xL hA hst ho hcl xf [0, 1, 2, 3, 4, 5, 6, 7, 8, 9, 10] rfl rfl rfl (by exact ⟨nQ rfl (by exact qH (qU rfl Tryd.runUnderlying27 rfl Tryd.sizeOf25 rfl) rfl), nQ rfl (by exact qH (zD 0 rfl JR rfl rfl Tryd.isAgg25) rfl), nM rfl, nQ rfl (by exact qH (vS rfl rfl Tryd.runUnderlying25 Tryd.sizeOf43 Va.wk (fun _ => rfl) rfl J7) rfl), nQ rfl (by exact qH (uQ rfl Va.wk (fun _ => rfl) J7 Tryd.isAgg43 Tryd.sizeOf43 rfl) rfl), nQ rfl (by exact qH (qU rfl Tryd.runUnderlying27 rfl Tryd.sizeOf25 rfl) rfl), nQ rfl (by exact qH (zD 1 rfl JS rfl rfl Tryd.isAgg25) rfl), nM rfl, nQ rfl (by exact qH (vS rfl rfl Tryd.runUnderlying25 Tryd.sizeOf43 Vc.wk (fun _ => rfl) rfl J8) rfl), nQ rfl (by exact qH (uQ rfl Vc.wk (fun _ => rfl) J8 Tryd.isAgg43 Tryd.sizeOf43 rfl) rfl), nQ rfl (by exact qH (Xv rfl rfl rfl (by kernel_rfl) (by kernel_rfl) (z2.cons (by decide) Tryd.isAgg9 rfl rfl (Ji Tryd.runUnderlying9) (z2.cons (by decide) Tryd.isAgg3 rfl rfl (Qq Tryd.runUnderlying3) (z2.cons (by decide) Tryd.isAgg23 rfl rfl (Qq Tryd.runUnderlying23) (z2.cons (by decide) Tryd.isAgg23 rfl rfl (Qq Tryd.runUnderlying23) (z2.cons (by decide) Tryd.isAgg9 rfl rfl (Ji Tryd.runUnderlying9) (z2.cons (by decide) Tryd.isAgg3 rfl rfl (Qq Tryd.runUnderlying3) (z2.cons (by decide) Tryd.isAgg3 rfl rfl (Qq Tryd.runUnderlying3) (z2.cons (by decide) Tryd.isAgg3 rfl rfl (Qq Tryd.runUnderlying3) (z2.cons (by decide) Tryd.isAgg23 rfl rfl (Qq Tryd.runUnderlying23) (z2.cons (by decide) Tryd.isAgg23 rfl rfl (Qq Tryd.runUnderlying23) z2.nil)))))))))) rfl) rfl), trivial⟩) fun a w hS => ?_
     replace hS := hS.env2 (e' := [(2, qp JT 0), (3, qp JU 0), (6, .int .i64 JP), (86, .bool (!(((rd JN.Sections_ JP).Name_ == (rd JO.Sections_ JP).Name_) && (((rd JN.Sections_ JP).Type_ == (rd JO.Sections_ JP).Type_) && (((rd JN.Sections_ JP).Flags_ == (rd JO.Sections_ JP).Flags_) && (((rd JN.Sections_ JP).Addr_ == (rd JO.Sections_ JP).Addr_) && (((rd JN.Sections_ JP).Data_ == (rd JO.Sections_ JP).Data_) && (((rd JN.Sections_ JP).Size_ == (rd JO.Sections_ JP).Size_) && (((rd JN.Sections_ JP).Link_ == (rd JO.Sections_ JP).Link_) && (((rd JN.Sections_ JP).Info_ == (rd JO.Sections_ JP).Info_) && (((rd JN.Sections_ JP).Align_ == (rd JO.Sections_ JP).Align_) && (((rd JN.Sections_ JP).Each_ == (rd JO.Sections_ JP).Each_) && true))))))))))))]) ⟨rfl, rfl, rfl, rfl, trivial⟩
     refine qi <| qI hS rfl hM (fun Vn hM => ?_) (fun Vn hM => ?_)
     ·refine wp_seq ?_
      refine zI <| sA hS rfl fun hS => qs <| wp_ret <| zK (qx (qx (zK (qx ?_))))
      exact qT (rs := [4]) hS rfl rfl (hret false _ (qC hM) (hS.st.pick [] (by kernel_rfl)))
     ·refine wp_skip ?_
      refine xr (qi ?_)
      refine zI <| sM hS rfl fun hS => sB hS rfl fun hS => zO (v := Value.int .i64) (x0 := (qM (JP + (1 : Int)))) hS (xK rfl) rfl fun Vp a w hz hS => ?_
      have hM := qO hz hM; clear hz
      refine qN <| qi ?_
      exact Vi _ _ ⟨Vp, hS.to [0, 1] (by kernel_rfl) ⟨rfl, rfl, rfl, trivial⟩, hM⟩
    ·refine wp_exit ?_
     refine qK (qK (zi (qi ?_)))
     refine qn <| sA hS rfl fun hS => qs <| wp_ret ?_
     exact qT (rs := [4]) hS rfl rfl (hret true _ (qC hM) (hS.st.pick [] (by kernel_rfl)))
theorem yP {H : zB} {F : List qj} {w : World} {R : Ending → World → Prop} {kr : Bool → Prop} {kp : Value → Prop} (hG : Gl H) (K : Nat)
    (hS : St w H [] F) (hm : (ze.m K).wp kr kp)
    (hret : ∀ (Vp : Bool) (w : World), kr Vp → St w H [] F → R (.returned (.bool Vp)) w) :
    Calls Tryd.prog 9 ⟨[]⟩ w R := by
 refine enter Tryd.func9 rfl Tryd.ntmps9 rfl hS fun a w hS => ?_
 have hM := hm; clear hm
 rw [ze.m] at hM
 refine qn <| sA hS rfl fun hS => qs <| qn <| sO hS (jW ([qr ([46, 116, 101, 120, 116] : List UInt8), .int .i64 (1 : Int), .int .u64 (0 : Int), .int .u64 (0 : Int), qr ([97, 98, 99] : List UInt8), .int .i64 (0 : Int), .int .i64 (0 : Int), .int .i64 (0 : Int), .int .u64 (0 : Int), .int .u64 (0 : Int)]) [(0, 1), (1, 1), (2, 1), (3, 1), (4, 1), (5, 1), (6, 1), (7, 1), (8, 1), (9, 1)] Tryd.zeroValue43 Tryd.runUnderlying43 (by intro w; simp [Tryd.sizeOf23, Tryd.sizeOf3, Tryd.sizeOf9]) rfl (by kernel_rfl)) rfl fun hS => sO hS (jW ([qr ([46, 98, 115, 115] : List UInt8), .int .i64 (8 : Int), .int .u64 (0 : Int), .int .u64 (0 : Int), qr ([] : List UInt8), .int .i64 (5 : Int), .int .i64 (0 : Int), .int .i64 (0 : Int), .int .u64 (0 : Int), .int .u64 (0 : Int)]) [(0, 1), (1, 1), (2, 1), (3, 1), (4, 1), (5, 1), (6, 1), (7, 1), (8, 1), (9, 1)] Tryd.zeroValue43 Tryd.runUnderlying43 (by intro w; simp [Tryd.sizeOf23, Tryd.sizeOf3, Tryd.sizeOf9]) rfl (by kernel_rfl)) rfl fun hS => vQ (g := qa.cells) ([(qa.mk ([46, 116, 101, 120, 116] : List UInt8) (1 : Int) (0 : Int) (0 : Int) ([97, 98, 99] : List UInt8) (0 : Int) (0 : Int) (0 : Int) (0 : Int) (0 : Int)), (qa.mk ([46, 98, 115, 115] : List UInt8) (8 : Int) (0 : Int) (0 : Int) ([] : List UInt8) (5 : Int) (0 : Int) (0 : Int) (0 : Int) (0 : Int))] : List qa) [.agg ⟨[qr ([46, 116, 101, 120, 116] : List UInt8), .int .i64 (1 : Int), .int .u64 (0 : Int), .int .u64 (0 : Int), qr ([97, 98, 99] : List UInt8), .int .i64 (0 : Int), .int .i64 (0 : Int), .int .i64 (0 : Int), .int .u64 (0 : Int), .int .u64 (0 : Int)]⟩, .agg ⟨[qr ([46, 98, 115, 115] : List UInt8), .int .i64 (8 : Int), .int .u64 (0 : Int), .int .u64 (0 : Int), qr ([] : List UInt8), .int .i64 (5 : Int), .int .i64 (0 : Int), .int .i64 (0 : Int), .int .u64 (0 : Int), .int .u64 (0 : Int)]⟩] hS Tryd.runUnderlying25 Tryd.sizeOf43 X.el43 rfl rfl rfl (by simp [Value.cells]) rfl rfl rfl rfl rfl fun w A3 c4 f5 hV6 hS => sO hS (jW ([.int .i64 (2 : Int), .int .i64 (62 : Int), .int .u64 (4096 : Int), .int .i64 (0 : Int), .slice none 0 0, .slice A3 ([(qa.mk ([46, 116, 101, 120, 116] : List UInt8) (1 : Int) (0 : Int) (0 : Int) ([97, 98, 99] : List UInt8) (0 : Int) (0 : Int) (0 : Int) (0 : Int) (0 : Int)), (qa.mk ([46, 98, 115, 115] : List UInt8) (8 : Int) (0 : Int) (0 : Int) ([] : List UInt8) (5 : Int) (0 : Int) (0 : Int) (0 : Int) (0 : Int))] : List qa).length c4]) [(0, 1), (1, 1), (2, 1), (3, 1), (4, 1), (5, 1)] Tryd.zeroValue27 Tryd.runUnderlying27 (by intro w; simp [Tryd.sizeOf23, Tryd.sizeOf24, Tryd.sizeOf25, Tryd.sizeOf3]) rfl rfl) rfl fun hS => jY ([.int .i64 (0 : Int), .int .i64 (0 : Int), .int .u64 (0 : Int), .int .i64 (0 : Int), .slice none 0 0, .slice none 0 0]) hS Tryd.zeroValue27 rfl rfl fun w b7 f8 hB9 hS => ?_
 obtain ⟨f10, VP, hS⟩ := hS.nilV 58 qb.cells 8
 obtain ⟨Vt, VQ, hS⟩ := hS.nilV 43 qa.cells 10
 refine jr 2 ([.int .i64 (2 : Int), .int .i64 (62 : Int), .int .u64 (4096 : Int), .int .i64 (0 : Int), .slice none 0 0, .slice A3 ([(qa.mk ([46, 116, 101, 120, 116] : List UInt8) (1 : Int) (0 : Int) (0 : Int) ([97, 98, 99] : List UInt8) (0 : Int) (0 : Int) (0 : Int) (0 : Int) (0 : Int)), (qa.mk ([46, 98, 115, 115] : List UInt8) (8 : Int) (0 : Int) (0 : Int) ([] : List UInt8) (5 : Int) (0 : Int) (0 : Int) (0 : Int) (0 : Int))] : List qa).length c4]) ([.int .i64 (2 : Int), .int .i64 (62 : Int), .int .u64 (4096 : Int), .int .i64 (0 : Int), .slice none 0 0, .slice A3 ([(qa.mk ([46, 116, 101, 120, 116] : List UInt8) (1 : Int) (0 : Int) (0 : Int) ([97, 98, 99] : List UInt8) (0 : Int) (0 : Int) (0 : Int) (0 : Int) (0 : Int)), (qa.mk ([46, 98, 115, 115] : List UInt8) (8 : Int) (0 : Int) (0 : Int) ([] : List UInt8) (5 : Int) (0 : Int) (0 : Int) (0 : Int) (0 : Int))] : List qa).length c4]) hS rfl rfl hB9 rfl rfl Tryd.sizeOf27 (by simp [Value.oneCell']) (Nat.le_of_ble_eq_true rfl) rfl fun w Vu Vz hS => ?_
 obtain ⟨Vv, Ve, hS⟩ := hS.nilV 58 qb.cells 8
 refine qs <| qn <| sO hS (xR 3 rfl Vz rfl ([.int .i64 (2 : Int), .int .i64 (62 : Int), .int .u64 (4096 : Int), .int .i64 (0 : Int), .slice none ([] : List qb).length (0), .slice A3 ([(qa.mk ([46, 116, 101, 120, 116] : List UInt8) (1 : Int) (0 : Int) (0 : Int) ([97, 98, 99] : List UInt8) (0 : Int) (0 : Int) (0 : Int) (0 : Int) (0 : Int)), (qa.mk ([46, 98, 115, 115] : List UInt8) (8 : Int) (0 : Int) (0 : Int) ([] : List UInt8) (5 : Int) (0 : Int) (0 : Int) (0 : Int) (0 : Int))] : List qa).length c4]) rfl rfl Tryd.isAgg27 Tryd.sizeOf27) rfl fun hS => ql hS rfl Tryd.call15 (vC hG K (qJ.mk (2 : Int) (62 : Int) (4096 : Int) (0 : Int) ([] : List qb) ([(qa.mk ([46, 116, 101, 120, 116] : List UInt8) (1 : Int) (0 : Int) (0 : Int) ([97, 98, 99] : List UInt8) (0 : Int) (0 : Int) (0 : Int) (0 : Int) (0 : Int)), (qa.mk ([46, 98, 115, 115] : List UInt8) (8 : Int) (0 : Int) (0 : Int) ([] : List UInt8) (5 : Int) (0 : Int) (0 : Int) (0 : Int) (0 : Int))] : List qa)) none (0) A3 c4 (Ve.rdF (i := 0) rfl) (Ve.cap (fun _ => rfl) rfl) (hV6.rdF (i := 4) rfl) (hV6.cap (fun _ => rfl) rfl) (hS.st.part 0 [0, 1, 2, 3, 4] (by kernel_rfl)) (qf hM) (fun VB Vn w hM  hst => qk hS.ev hst.appF rfl fun hS => ?_))
 replace hS : Ss _ _ _ H [Vv, Vt, f10, Vu, f5] F _ _ := hS
 refine sM hS rfl fun hS => sO hS (ex rfl rfl) rfl fun hS => sO hS (ex rfl rfl) rfl fun hS => sA hS rfl fun hS => sA hS rfl fun hS => qs <| qn <| sM hS rfl fun hS => ql hS rfl Tryd.call10 (jN hG K VB (hS.st.part 0 [0, 1, 2, 3, 4] (by kernel_rfl)) (qf hM) (fun JS JP JQ JR J3 J5 JO J7 J4 J6 JN J8 Vo w hM Vl Vm hst => qk hS.ev hst.appF rfl fun hS => ?_))
 replace hS : Ss _ _ _ H [J7, J8, Vv, Vt, f10, Vu, f5] F _ _ := hS
 refine sM hS rfl fun hS => sO hS (ex rfl rfl) rfl fun hS => sO hS (ex rfl rfl) rfl fun hS => jY ([.int .i64 (0 : Int), .int .i64 (0 : Int), .int .u64 (0 : Int), .int .i64 (0 : Int), .slice none 0 0, .slice none 0 0]) hS Tryd.zeroValue27 rfl rfl fun w VJ VL Vq hS => ?_
 obtain ⟨Va, VE, hS⟩ := hS.nilV 58 qb.cells 8
 obtain ⟨Vb, VF, hS⟩ := hS.nilV 43 qa.cells 10
 refine jr 2 ([.int .i64 JS, .int .i64 JP, .int .u64 JQ, .int .i64 JR, .slice J3 JO.length J5, .slice J4 JN.length J6]) ([.int .i64 JS, .int .i64 JP, .int .u64 JQ, .int .i64 JR, .slice J3 JO.length J5, .slice J4 JN.length J6]) hS rfl rfl Vq rfl rfl Tryd.sizeOf27 (by simp [Value.oneCell']) (Nat.le_of_ble_eq_true rfl) rfl fun w Vc Vr hS => sA hS rfl fun hS => qs <| qn <| sO hS (jW ([.int .i64 (0 : Int), .int .i64 (0 : Int), .int .u64 (0 : Int), .int .i64 (0 : Int), .slice none 0 0, .slice none 0 0]) [(0, 1), (1, 1), (2, 1), (3, 1), (4, 1), (5, 1)] Tryd.zeroValue27 Tryd.runUnderlying27 (by intro w; simp [Tryd.sizeOf23, Tryd.sizeOf24, Tryd.sizeOf25, Tryd.sizeOf3]) rfl rfl) rfl fun hS => ql hS rfl Tryd.call15 (vC hG K (qJ.mk (0 : Int) (0 : Int) (0 : Int) (0 : Int) ([] : List qb) ([] : List qa)) none (0) none (0) yT.nil (Nat.le_refl _) yT.nil (Nat.le_refl _) (hS.st.part 0 [0, 1, 2, 3, 4, 5, 6, 7, 8, 9] (by kernel_rfl)) (qf hM) (fun J1 J2 w hM  hst => qk hS.ev hst.appF rfl fun hS => ?_))
 replace hS : Ss _ _ _ H [Vb, Va, Vc, J7, J8, Vv, Vt, f10, Vu, f5] F _ _ := hS
 refine sM hS rfl fun hS => sO hS (ex rfl rfl) rfl fun hS => sO hS (ex rfl rfl) rfl fun hS => sA hS rfl fun hS => sA hS rfl fun hS => qs <| qn <| ql hS rfl Tryd.call10 (jN hG K ([] : List UInt8) (hS.st.part 0 [0, 1, 2, 3, 4, 5, 6, 7, 8, 9] (by kernel_rfl)) (qf hM) (fun J0 JV JY JZ Vf Vh JU Vj Vg Vi JT Vk J9 w hM VN VO hst => qk hS.ev hst.appF rfl fun hS => ?_))
 replace hS : Ss _ _ _ H [Vj, Vk, Vb, Va, Vc, J7, J8, Vv, Vt, f10, Vu, f5] F _ _ := hS
 refine sM hS rfl fun hS => sO hS (ex rfl rfl) rfl fun hS => sO hS (ex rfl rfl) rfl fun hS => jY ([.int .i64 (0 : Int), .int .i64 (0 : Int), .int .u64 (0 : Int), .int .i64 (0 : Int), .slice none 0 0, .slice none 0 0]) hS Tryd.zeroValue27 rfl rfl fun w VK VM Vs hS => ?_
 obtain ⟨Vw, VG, hS⟩ := hS.nilV 58 qb.cells 8
 obtain ⟨Vx, VH, hS⟩ := hS.nilV 43 qa.cells 10
 refine jr 2 ([.int .i64 J0, .int .i64 JV, .int .u64 JY, .int .i64 JZ, .slice Vf JU.length Vh, .slice Vg JT.length Vi]) ([.int .i64 J0, .int .i64 JV, .int .u64 JY, .int .i64 JZ, .slice Vf JU.length Vh, .slice Vg JT.length Vi]) hS rfl rfl Vs rfl rfl Tryd.sizeOf27 (by simp [Value.oneCell']) (Nat.le_of_ble_eq_true rfl) rfl fun w Vy VD hS => sA hS rfl fun hS => qs <| qn <| sM hS rfl fun hS => sB hS rfl fun hS => sM hS rfl fun hS => xy 2 true 35 (b := (Vn == (0 : Int))) (r := (Vo == (0 : Int))) hS rfl rfl rfl rfl rfl rfl rfl (fun hb a w hS K hK => ?_) rfl fun a w hS => ?_
 ·refine qw hS rfl rfl rfl hb (mv rfl) rfl fun a w hS => ?_
  refine qw hS rfl rfl rfl hb (x6 rfl rfl rfl) rfl fun a w hS => ?_
  exact qN (hK _ _ (hS.up 2 rfl rfl))
 refine sM hS rfl fun hS => zR (fun a w => ∃ (JX : Bool), Ss 57 [] [(6, qr J1), (7, .int .i64 J2), (9, .int .i64 J9), (43, .bool JX)] H [] F a w ∧ (ze.j1 K J1 J2 J9 JX).wp kr kp) 4 (fun VI Vd => ?_) ?_
 ·refine um (b := ((Vn == (0 : Int)) && (Vo == (0 : Int)))) hM (fun JW hM => ?_) (fun JW hM => ?_)
  ·replace hS := hS.re 38 (v := .bool true) rfl (congrArg Value.bool JW)
   replace hS := hS.re 39 (v := .bool true) rfl (congrArg Value.bool JW)
   refine qw hS rfl rfl rfl rfl (xR 13 rfl Vz rfl ([.int .i64 (2 : Int), .int .i64 (62 : Int), .int .u64 (4096 : Int), .int .i64 (0 : Int), .slice none ([] : List qb).length (0), .slice A3 ([(qa.mk ([46, 116, 101, 120, 116] : List UInt8) (1 : Int) (0 : Int) (0 : Int) ([97, 98, 99] : List UInt8) (0 : Int) (0 : Int) (0 : Int) (0 : Int) (0 : Int)), (qa.mk ([46, 98, 115, 115] : List UInt8) (8 : Int) (0 : Int) (0 : Int) ([] : List UInt8) (5 : Int) (0 : Int) (0 : Int) (0 : Int) (0 : Int))] : List qa).length c4]) rfl rfl Tryd.isAgg27 Tryd.sizeOf27) rfl fun a w hS => qw hS rfl rfl rfl rfl (xR 7 rfl Vr rfl ([.int .i64 JS, .int .i64 JP, .int .u64 JQ, .int .i64 JR, .slice J3 JO.length J5, .slice J4 JN.length J6]) rfl rfl Tryd.isAgg27 Tryd.sizeOf27) rfl fun a w hS => z5 hS rfl rfl rfl rfl <| ql hS rfl Tryd.call12 (yQ hG K (qJ.mk (2 : Int) (62 : Int) (4096 : Int) (0 : Int) ([] : List qb) ([(qa.mk ([46, 116, 101, 120, 116] : List UInt8) (1 : Int) (0 : Int) (0 : Int) ([97, 98, 99] : List UInt8) (0 : Int) (0 : Int) (0 : Int) (0 : Int) (0 : Int)), (qa.mk ([46, 98, 115, 115] : List UInt8) (8 : Int) (0 : Int) (0 : Int) ([] : List UInt8) (5 : Int) (0 : Int) (0 : Int) (0 : Int) (0 : Int))] : List qa)) (qJ.mk JS JP JQ JR JO JN) none (0) A3 c4 J3 J5 J4 J6 (Ve.rdF (i := 10) rfl) (Ve.cap (fun _ => rfl) rfl) (hV6.rdF (i := 14) rfl) (hV6.cap (fun _ => rfl) rfl) (Vl.rdF (i := 8) rfl) (Vl.cap (fun _ => rfl) rfl) (Vm.rdF (i := 9) rfl) (Vm.cap (fun _ => rfl) rfl) (hS.st.part 0 [0, 1, 2, 3, 4, 5, 6, 7, 8, 9, 10, 11, 12, 13, 14] (by kernel_rfl)) (qf hM) (fun VC w hM  hst => qk hS.ev hst.appF rfl fun hS => ?_))
   replace hS : Ss _ _ _ H [Vx, Vw, Vy, Vj, Vk, Vb, Va, Vc, J7, J8, Vv, Vt, f10, Vu, f5] F _ _ := hS
   refine sO hS (pk rfl rfl rfl) rfl fun hS => qN <| qi ?_
   exact Vd _ _ ⟨VC, hS.to [] (by kernel_rfl) ⟨rfl, rfl, rfl, rfl, trivial⟩, hM⟩
  ·replace hS := hS.re 38 (v := .bool false) rfl (congrArg Value.bool JW)
   replace hS := hS.re 39 (v := .bool false) rfl (congrArg Value.bool JW)
   refine yv 3 hS rfl fun a w hS => sO hS (pk rfl rfl rfl) rfl fun hS => qN <| qi ?_
   exact Vd _ _ ⟨false, hS.to [] (by kernel_rfl) ⟨rfl, rfl, rfl, rfl, trivial⟩, hM⟩
 ·intro a w hI
  obtain ⟨JX, hS, hM⟩ := hI
  rw [ze.j1] at hM
  refine sM hS rfl fun hS => xy 3 true 44 (b := JX) (r := ((J1.length : Int) == (208 : Int))) hS rfl rfl rfl rfl rfl rfl rfl (fun hb a w hS K hK => ?_) rfl fun a w hS => ?_
  ·refine qw hS rfl rfl rfl hb (mv rfl) rfl fun a w hS => ?_
   refine qw hS rfl rfl rfl hb (yi rfl Tryd.runUnderlying9) rfl fun a w hS => qw hS rfl rfl rfl hb (x6 rfl rfl rfl) rfl fun a w hS => ?_
   exact qN (hK _ _ (hS.up 3 rfl rfl))
  refine sM hS rfl fun hS => xy 2 true 49 (b := (JX && ((J1.length : Int) == (208 : Int)))) (r := (J2 == (0 : Int))) hS rfl rfl rfl rfl rfl rfl rfl (fun hb a w hS K hK => ?_) rfl fun a w hS => ?_
  ·refine qw hS rfl rfl rfl hb (mv rfl) rfl fun a w hS => ?_
   refine qw hS rfl rfl rfl hb (x6 rfl rfl rfl) rfl fun a w hS => ?_
   exact qN (hK _ _ (hS.up 2 rfl rfl))
  refine sM hS rfl fun hS => xy 2 true 53 (b := ((JX && ((J1.length : Int) == (208 : Int))) && (J2 == (0 : Int)))) (r := (J9 == (2 : Int))) hS rfl rfl rfl rfl rfl rfl rfl (fun hb a w hS K hK => ?_) rfl fun a w hS => ?_
  ·refine qw hS rfl rfl rfl hb (mv rfl) rfl fun a w hS => ?_
   refine qw hS rfl rfl rfl hb (x6 rfl rfl rfl) rfl fun a w hS => ?_
   exact qN (hK _ _ (hS.up 2 rfl rfl))
  refine zO (v := Value.bool) (x0 := (((JX && ((J1.length : Int) == (208 : Int))) && (J2 == (0 : Int))) && (J9 == (2 : Int)))) hS (xK rfl) rfl fun VA a w hz hS => ?_
  have hM := qO hz hM; clear hz
  refine qs <| wp_ret ?_
  exact qT (rs := [0]) hS rfl rfl (hret VA _ (qC hM) (hS.st.pick [] (by kernel_rfl)))
theorem jv {H : zB} {F : List qj} {w : World} {R : Ending → World → Prop} {kr : Bool → Prop} {kp : Value → Prop} (hG : Gl H) (K : Nat) (JN : Int)
    (hS : St w H [] F) (hm : (xB.m K JN).wp kr kp)
    (hret : ∀ (JO : Bool) (w : World), kr JO → St w H [] F → R (.returned (.bool JO)) w) :
    Calls Tryd.prog 83 ⟨[.int .i64 JN]⟩ w R := by
 refine enter Tryd.func83 rfl Tryd.ntmps83 rfl hS fun a w hS => ?_
 have hM := hm; clear hm
 rw [xB.m] at hM
 refine qn <| sA hS rfl fun hS => qs <| qn <| sM hS rfl fun hS => sB hS rfl fun hS => sM hS rfl fun hS => xy 2 false 5 (b := (JN == (1 : Int))) (r := (JN == (2 : Int))) hS rfl rfl rfl rfl rfl rfl rfl (fun hb a w hS K hK => ?_) rfl fun a w hS => ?_
 ·refine qw hS rfl rfl rfl hb (mv rfl) rfl fun a w hS => ?_
  refine qw hS rfl rfl rfl hb (x6 rfl rfl rfl) rfl fun a w hS => ?_
  exact qN (hK _ _ (hS.up 2 rfl rfl))
 refine sM hS rfl fun hS => xy 2 false 9 (b := ((JN == (1 : Int)) || (JN == (2 : Int)))) (r := (JN == (4 : Int))) hS rfl rfl rfl rfl rfl rfl rfl (fun hb a w hS K hK => ?_) rfl fun a w hS => ?_
 ·refine qw hS rfl rfl rfl hb (mv rfl) rfl fun a w hS => ?_
  refine qw hS rfl rfl rfl hb (x6 rfl rfl rfl) rfl fun a w hS => ?_
  exact qN (hK _ _ (hS.up 2 rfl rfl))
 refine sM hS rfl fun hS => xy 2 false 13 (b := (((JN == (1 : Int)) || (JN == (2 : Int))) || (JN == (4 : Int)))) (r := (JN == (8 : Int))) hS rfl rfl rfl rfl rfl rfl rfl (fun hb a w hS K hK => ?_) rfl fun a w hS => ?_
 ·refine qw hS rfl rfl rfl hb (mv rfl) rfl fun a w hS => ?_
  refine qw hS rfl rfl rfl hb (x6 rfl rfl rfl) rfl fun a w hS => ?_
  exact qN (hK _ _ (hS.up 2 rfl rfl))
 refine zO (v := Value.bool) (x0 := ((((JN == (1 : Int)) || (JN == (2 : Int))) || (JN == (4 : Int))) || (JN == (8 : Int)))) hS (xK rfl) rfl fun JP a w hz hS => ?_
 have hM := qO hz hM; clear hz
 refine qs <| wp_ret ?_
 exact qT (rs := [2]) hS rfl rfl (hret JP _ (qC hM) (hS.st.pick [] (by kernel_rfl)))
theorem jC {H : zB} {F : List qj} {w : World} {R : Ending → World → Prop} {kr : (Int × Int) → Prop} {kp : Value → Prop} (hG : Gl H) (K : Nat) (JQ : List UInt8) (JO : Int) (JN : Int) (JP : Bool)
    (hS : St w H [] F) (hm : (qD.m K JQ JO JN JP).wp kr kp)
    (hret : ∀ (JW : Int) (JX : Int) (w : World), kr (JW, JX) → St w H [] F → R (.returned (.tuple ⟨[.int .u64 JW, .int .i64 JX]⟩)) w) :
    Calls Tryd.prog 64 ⟨[qr JQ, .int .i64 JO, .int .i64 JN, .bool JP]⟩ w R := by
 refine enter Tryd.func64 rfl Tryd.ntmps64 rfl hS fun a w hS => ?_
 have hM := hm; clear hm
 rw [qD.m] at hM
 refine qn <| sA hS rfl fun hS => sA hS rfl fun hS => qs <| wp_seq <| qn <| sM hS rfl fun hS => ql hS rfl Tryd.call83 (jv hG K JN (hS.st.part 0 [] (by kernel_rfl)) (qf hM) (fun J9 w hM  hst => qk hS.ev hst.appF rfl fun hS => ?_))
 replace hS : Ss _ _ _ H [] F _ _ := hS
 refine sO hS (un rfl rfl) rfl fun hS => sM hS rfl fun hS => xy 2 false 16 (b := (!J9)) (r := (decide (JO < (0 : Int)))) hS rfl rfl rfl rfl rfl rfl rfl (fun hb a w hS K hK => ?_) rfl fun a w hS => ?_
 ·refine qw hS rfl rfl rfl hb (mv rfl) rfl fun a w hS => ?_
  refine qw hS rfl rfl rfl hb (x6 rfl rfl rfl) rfl fun a w hS => ?_
  exact qN (hK _ _ (hS.up 2 rfl rfl))
 refine qs <| qI hS rfl hM (fun J1 hM => ?_) (fun J1 hM => ?_)
 ·refine wp_seq ?_
  refine zI <| sA hS rfl fun hS => sA hS rfl fun hS => qs <| wp_ret <| qx ?_
  exact qT (rs := [8, 9]) hS rfl rfl (hret (0 : Int) (1 : Int) _ (qC hM) (hS.st.pick [] (by kernel_rfl)))
 ·refine wp_skip ?_
  refine qi <| wp_seq <| qn <| sM hS rfl fun hS => sM hS rfl fun hS => sO hS (yi rfl Tryd.runUnderlying9) rfl fun hS => sB hS rfl fun hS => sM hS rfl fun hS => xy 6 false 24 (b := (decide (JO > (JQ.length : Int)))) (r := (decide (JN > (qM ((JQ.length : Int) - JO))))) hS rfl rfl rfl rfl rfl rfl rfl (fun hb a w hS K hK => ?_) rfl fun a w hS => ?_
  ·refine qw hS rfl rfl rfl hb (mv rfl) rfl fun a w hS => ?_
   refine qw hS rfl rfl rfl hb (mv rfl) rfl fun a w hS => qw hS rfl rfl rfl hb (yi rfl Tryd.runUnderlying9) rfl fun a w hS => qw hS rfl rfl rfl hb (mv rfl) rfl fun a w hS => qw hS rfl rfl rfl hb (x6 rfl rfl rfl) rfl fun a w hS => qw hS rfl rfl rfl hb (x6 rfl rfl rfl) rfl fun a w hS => ?_
   exact qN (hK _ _ (hS.up 6 rfl rfl))
  refine qs <| qI hS rfl hM (fun J2 hM => ?_) (fun J2 hM => ?_)
  ·refine wp_seq ?_
   refine zI <| sA hS rfl fun hS => sA hS rfl fun hS => qs <| wp_ret <| qx ?_
   exact qT (rs := [8, 9]) hS rfl rfl (hret (0 : Int) (2 : Int) _ (qC hM) (hS.st.pick [] (by kernel_rfl)))
  ·refine wp_skip ?_
   refine qi <| qn <| sA hS rfl fun hS => qs <| wp_seq <| qn <| sA hS rfl fun hS => qs <| yp <| zz (fun JV a w => ∃ (JR : Int) (JS : Int), Ss 57 [] [(0, qr JQ), (1, .int .i64 JO), (2, .int .i64 JN), (3, .bool JP), (10, .int .u64 JR), (11, .int .i64 JS)] H [] F a w ∧ (qD.l1 K JQ JO JN JP JV JR JS).wp kr kp) K ?_ ?_ ?_
   ·exact ⟨(0 : Int), (0 : Int), hS.to [] (by kernel_rfl) ⟨rfl, rfl, rfl, rfl, rfl, rfl, trivial⟩, hM⟩
   ·intro a w hI; obtain ⟨_, _, _, hM⟩ := hI; exact zA hM
   ·intro JV a w hI Vb J0
    obtain ⟨JR, JS, hS, hM⟩ := hI
    rw [qD.l1] at hM
    refine wp_seq <| qn <| sM hS rfl fun hS => sM hS rfl fun hS => sB hS rfl fun hS => qs <| qI hS rfl hM (fun J3 hM => ?_) (fun J3 hM => ?_)
    ·refine wp_skip ?_
     refine qi <| wp_seq <| yp <| qn <| sM hS rfl fun hS => sM hS rfl fun hS => sM hS rfl fun hS => sB hS rfl fun hS => sB hS rfl fun hS => sM hS rfl fun hS => sB hS rfl fun hS => ?_
     obtain ⟨J5, hM⟩ := qL hM
     refine sO hS (Q9 rfl rfl Tryd.runUnderlying9 J5) rfl fun hS => zO (v := Value.int .u8) (x0 := ((rd JQ (qM ((qM ((qM (JO + JN)) - (1 : Int))) - JS))).toNat : Int)) hS (xK rfl) rfl fun JY a w hz hS => ?_
     have hM := qO hz hM; clear hz
     refine qs <| zq (fun a w => ∃ (JT : Int), Ss 57 [] [(0, qr JQ), (1, .int .i64 JO), (2, .int .i64 JN), (3, .bool JP), (10, .int .u64 JR), (11, .int .i64 JS), (12, .int .u8 JT)] H [] F a w ∧ (qD.j2 K (qD.l1 K JQ JO JN JP JV) JR JS JT).wp kr kp) (fun Va JU => ?_) ?_
     ·refine wp_seq ?_
      refine zI <| sM hS rfl fun hS => qs <| qI hS rfl hM (fun J4 hM => ?_) (fun J4 hM => ?_)
      ·refine zI ?_
       refine sM hS rfl fun hS => sM hS rfl fun hS => sM hS rfl fun hS => sB hS rfl fun hS => ?_
       obtain ⟨J6, hM⟩ := qL hM
       refine sO hS (Q9 rfl rfl Tryd.runUnderlying9 J6) rfl fun hS => zO (v := Value.int .u8) (x0 := ((rd JQ (qM (JO + JS))).toNat : Int)) hS (xK rfl) rfl fun JZ a w hz hS => ?_
       have hM := qO hz hM; clear hz
       refine qN <| qi ?_
       exact JU _ _ ⟨JZ, hS.to [] (by kernel_rfl) ⟨rfl, rfl, rfl, rfl, rfl, rfl, rfl, trivial⟩, hM⟩
      ·refine wp_skip ?_
       refine qi ?_
       exact JU _ _ ⟨JY, hS.to [] (by kernel_rfl) ⟨rfl, rfl, rfl, rfl, rfl, rfl, rfl, trivial⟩, hM⟩
     ·intro a w hI
      obtain ⟨JT, hS, hM⟩ := hI
      rw [qD.j2] at hM
      refine zI <| sM hS rfl fun hS => sB hS rfl fun hS => sM hS rfl fun hS => sO hS (yM rfl Tryd.runUnderlying5 Tryd.runUnderlying23) rfl fun hS => sB hS rfl fun hS => zO (v := Value.int .u64) (x0 := (wr .u64 ((wr .u64 (JR * (256 : Int))) + (wr .u64 JT)))) hS (xK rfl) rfl fun J7 a w hz hS => ?_
      have hM := qO hz hM; clear hz
      refine qN <| xr (qi ?_)
      refine zI <| sM hS rfl fun hS => sB hS rfl fun hS => zO (v := Value.int .i64) (x0 := (qM (JS + (1 : Int)))) hS (xK rfl) rfl fun J8 a w hz hS => ?_
      have hM := qO hz hM; clear hz
      refine qN <| qi ?_
      exact J0 _ _ ⟨J7, J8, hS.to [] (by kernel_rfl) ⟨rfl, rfl, rfl, rfl, rfl, rfl, trivial⟩, hM⟩
    ·refine wp_exit ?_
     refine qK (qK (zi (qi ?_)))
     refine qn <| sM hS rfl fun hS => sA hS rfl fun hS => sA hS rfl fun hS => qs <| wp_ret ?_
     exact qT (rs := [8, 9]) hS rfl rfl (hret JR (0 : Int) _ (qC hM) (hS.st.pick [] (by kernel_rfl)))
theorem qo {H : zB} {F : List qj} {w : World} {R : Ending → World → Prop} {kr : Int → Prop} {kp : Value → Prop} (hG : Gl H) (K : Nat) (JP : List UInt8) (JO : Int) (JN : Int)
    (hS : St w H [] F) (hm : (qd.m K JP JO JN).wp kr kp)
    (hret : ∀ (JQ : Int) (w : World), kr JQ → St w H [] F → R (.returned (.int .u64 JQ)) w) :
    Calls Tryd.prog 28 ⟨[qr JP, .int .i64 JO, .int .i64 JN]⟩ w R := by
 refine enter Tryd.func28 rfl Tryd.ntmps28 rfl hS fun a w hS => ?_
 have hM := hm; clear hm
 rw [qd.m] at hM
 refine qn <| sA hS rfl fun hS => qs <| qn <| sM hS rfl fun hS => sM hS rfl fun hS => sM hS rfl fun hS => ql hS rfl Tryd.call64 (jC hG K JP JO JN false (hS.st.part 0 [] (by kernel_rfl)) (qf hM) (fun JR JS w hM  hst => qk hS.ev hst.appF rfl fun hS => ?_))
 replace hS : Ss _ _ _ H [] F _ _ := hS
 refine sM hS rfl fun hS => sO hS (ex rfl rfl) rfl fun hS => sO hS (ex rfl rfl) rfl fun hS => sA hS rfl fun hS => sA hS rfl fun hS => qs <| qn <| sM hS rfl fun hS => sA hS rfl fun hS => qs <| wp_ret ?_
 exact qT (rs := [6]) hS rfl rfl (hret JR _ (qC hM) (hS.st.pick [] (by kernel_rfl)))
theorem xl {H : zB} {F : List qj} {w : World} {R : Ending → World → Prop} {kr : Bool → Prop} {kp : Value → Prop} (hG : Gl H) (K : Nat) (JO : List UInt8) (JN : Int) (JP : Int)
    (hS : St w H [] F) (hm : (zb.m K JO JN JP).wp kr kp)
    (hret : ∀ (JQ : Bool) (w : World), kr JQ → St w H [] F → R (.returned (.bool JQ)) w) :
    Calls Tryd.prog 29 ⟨[qr JO, .int .u64 JN, .int .u64 JP]⟩ w R := by
 refine enter Tryd.func29 rfl Tryd.ntmps29 rfl hS fun a w hS => ?_
 have hM := hm; clear hm
 rw [zb.m] at hM
 refine qn <| sA hS rfl fun hS => qs <| qn <| sM hS rfl fun hS => sM hS rfl fun hS => sO hS (yi rfl Tryd.runUnderlying9) rfl fun hS => sO hS (yM rfl Tryd.runUnderlying3 Tryd.runUnderlying23) rfl fun hS => sB hS rfl fun hS => sM hS rfl fun hS => xy 7 true 12 (b := (decide (JN ≤ (wr .u64 (JO.length : Int))))) (r := (decide (JP ≤ (wr .u64 ((wr .u64 (JO.length : Int)) - JN))))) hS rfl rfl rfl rfl rfl rfl rfl (fun hb a w hS K hK => ?_) rfl fun a w hS => ?_
 ·refine qw hS rfl rfl rfl hb (mv rfl) rfl fun a w hS => ?_
  refine qw hS rfl rfl rfl hb (mv rfl) rfl fun a w hS => qw hS rfl rfl rfl hb (yi rfl Tryd.runUnderlying9) rfl fun a w hS => qw hS rfl rfl rfl hb (yM rfl Tryd.runUnderlying3 Tryd.runUnderlying23) rfl fun a w hS => qw hS rfl rfl rfl hb (mv rfl) rfl fun a w hS => qw hS rfl rfl rfl hb (x6 rfl rfl rfl) rfl fun a w hS => qw hS rfl rfl rfl hb (x6 rfl rfl rfl) rfl fun a w hS => ?_
  exact qN (hK _ _ (hS.up 7 rfl rfl))
 refine zO (v := Value.bool) (x0 := ((decide (JN ≤ (wr .u64 (JO.length : Int)))) && (decide (JP ≤ (wr .u64 ((wr .u64 (JO.length : Int)) - JN)))))) hS (xK rfl) rfl fun JR a w hz hS => ?_
 have hM := qO hz hM; clear hz
 refine qs <| wp_ret ?_
 exact qT (rs := [6]) hS rfl rfl (hret JR _ (qC hM) (hS.st.pick [] (by kernel_rfl)))
theorem y9 {H : zB} {F : List qj} {w : World} {R : Ending → World → Prop} {kr : ((List qb) × Int) → Prop} {kp : Value → Prop} (hG : Gl H) (K : Nat) (JS : List UInt8) (JO : Int) (JV : Int)
    (hS : St w H [] F) (hm : (qP.m K JS JO JV).wp kr kp)
    (hret : ∀ (J6 : Option Addr) (J7 : Nat) (J5 : (List qb)) (J8 : qj) (Va : Int) (w : World), kr (J5, Va) → (zp 58 qb.cells 8 J6 J5 J7 J8) → St w H [J8] F → R (.returned (.tuple ⟨[.slice J6 J5.length J7, .int .i64 Va]⟩)) w) :
    Calls Tryd.prog 30 ⟨[qr JS, .int .i64 JO, .int .i64 JV]⟩ w R := by
 refine enter Tryd.func30 rfl Tryd.ntmps30 rfl hS fun a w hS => ?_
 have hM := hm; clear hm
 rw [qP.m] at hM
 refine qn <| sA hS rfl fun hS => ?_
 obtain ⟨Vy, Vu, hS⟩ := hS.nilV 58 qb.cells 8
 refine sA hS rfl fun hS => qs <| qn <| sA hS rfl fun hS => ?_
 obtain ⟨Vp, Vc, hS⟩ := hS.nilV 58 qb.cells 8
 refine qs <| wp_seq <| qn <| sA hS rfl fun hS => qs <| yp <| zz (fun J9 a w => ∃ (JW : Option Addr) (JX : Nat) (JP : (List qb)) (JN : qj) (JR : Int), Ss 67 [] [(0, qr JS), (1, .int .i64 JO), (2, .int .i64 JV), (8, .slice JW JP.length JX), (9, .int .i64 JR)] H [JN] F a w ∧ (zp 58 qb.cells 8 JW JP JX JN) ∧ (qP.l1 K JS JO JV J9 JP JR).wp kr kp) K ?_ ?_ ?_
 ·exact ⟨none, 0, ([] : List qb), Vp, (0 : Int), hS.to [0] (by kernel_rfl) ⟨rfl, rfl, rfl, rfl, rfl, trivial⟩, Vc, hM⟩
 ·intro a w hI; obtain ⟨_, _, _, _, _, _, _, hM⟩ := hI; exact zA hM
 ·intro J9 a w hI Vw Vb
  obtain ⟨JW, JX, JP, JN, JR, hS, J4, hM⟩ := hI
  rw [qP.l1] at hM
  refine wp_seq <| qn <| sM hS rfl fun hS => sM hS rfl fun hS => sB hS rfl fun hS => qs <| qI hS rfl hM (fun Vh hM => ?_) (fun Vh hM => ?_)
  ·refine wp_skip ?_
   refine qi <| wp_seq <| yp <| qn <| sM hS rfl fun hS => sM hS rfl fun hS => sM hS rfl fun hS => sB hS rfl fun hS => sB hS rfl fun hS => sM hS rfl fun hS => sM hS rfl fun hS => sB hS rfl fun hS => sB hS rfl fun hS => sB hS rfl fun hS => ?_
   obtain ⟨Vk, hM⟩ := qL hM
   refine sO hS (QJ rfl Tryd.runUnderlying9 (Xy rfl) (QQ rfl) Vk) rfl fun hS => zO (v := qr) (x0 := (sub JS (qM (JO + (qM ((56 : Int) * JR)))) (qM ((qM (JO + (qM ((56 : Int) * JR)))) + (56 : Int))))) hS (xK rfl) rfl fun JQ a w hz hS => ?_
   have hM := qO hz hM; clear hz
   refine qs <| qn <| sM hS rfl fun hS => ql hS rfl Tryd.call28 (qo hG K JQ (8 : Int) (8 : Int) (hS.st.part 0 [0] (by kernel_rfl)) (qf hM) (fun JT w hM  hst => qk hS.ev hst.appF rfl fun hS => ?_))
   replace hS : Ss _ _ _ H [JN] F _ _ := hS
   refine sA hS rfl fun hS => qs <| qn <| sM hS rfl fun hS => ql hS rfl Tryd.call28 (qo hG K JQ (32 : Int) (8 : Int) (hS.st.part 0 [0] (by kernel_rfl)) (qf hM) (fun JU w hM  hst => qk hS.ev hst.appF rfl fun hS => ?_))
   replace hS : Ss _ _ _ H [JN] F _ _ := hS
   refine sA hS rfl fun hS => qs <| wp_seq <| qn <| sM hS rfl fun hS => sB hS rfl fun hS => sM hS rfl fun hS => xy 2 false 35 (b := (decide (JT > (1099511627776 : Int)))) (r := (decide (JU > (1099511627776 : Int)))) hS rfl rfl rfl rfl rfl rfl rfl (fun hb a w hS K hK => ?_) rfl fun a w hS => ?_
   ·refine qw hS rfl rfl rfl hb (mv rfl) rfl fun a w hS => ?_
    refine qw hS rfl rfl rfl hb (x6 rfl rfl rfl) rfl fun a w hS => ?_
    exact qN (hK _ _ (hS.up 2 rfl rfl))
   refine qs <| qI hS rfl hM (fun Vi hM => ?_) (fun Vi hM => ?_)
   ·refine wp_seq ?_
    refine zI <| sA hS rfl fun hS => ?_
    obtain ⟨Vq, Vd, hS⟩ := hS.nilV 58 qb.cells 8
    refine sA hS rfl fun hS => qs <| wp_ret <| qx (zK (qx (qx (zK (qx ?_)))))
    exact qT (rs := [6, 7]) hS rfl rfl (hret none (0) ([] : List qb) Vq (3 : Int) _ (qC hM) Vd (hS.st.pick [0] (by kernel_rfl)))
   ·refine wp_skip ?_
    refine qi <| wp_seq <| qn <| sM hS rfl fun hS => sM hS rfl fun hS => sM hS rfl fun hS => ql hS rfl Tryd.call29 (xl hG K JS JT JU (hS.st.part 0 [0] (by kernel_rfl)) (qf hM) (fun VA w hM  hst => qk hS.ev hst.appF rfl fun hS => ?_))
    replace hS : Ss _ _ _ H [JN] F _ _ := hS
    refine sO hS (un rfl rfl) rfl fun hS => qs <| qI hS rfl hM (fun Vj hM => ?_) (fun Vj hM => ?_)
    ·refine wp_seq ?_
     refine zI <| sA hS rfl fun hS => ?_
     obtain ⟨Vr, Ve, hS⟩ := hS.nilV 58 qb.cells 8
     refine sA hS rfl fun hS => qs <| wp_ret <| qx (zK (qx (qx (zK (qx ?_)))))
     exact qT (rs := [6, 7]) hS rfl rfl (hret none (0) ([] : List qb) Vr (2 : Int) _ (qC hM) Ve (hS.st.pick [0] (by kernel_rfl)))
    ·refine wp_skip ?_
     refine qi <| zI <| sM hS rfl fun hS => sM hS rfl fun hS => ql hS rfl Tryd.call28 (qo hG K JQ (0 : Int) (4 : Int) (hS.st.part 0 [0] (by kernel_rfl)) (qf hM) (fun JY w hM  hst => qk hS.ev hst.appF rfl fun hS => ?_))
     replace hS : Ss _ _ _ H [JN] F _ _ := hS
     refine sO hS (yM rfl Tryd.runUnderlying23 Tryd.runUnderlying3) rfl fun hS => sM hS rfl fun hS => ql hS rfl Tryd.call28 (qo hG K JQ (4 : Int) (4 : Int) (hS.st.part 0 [0] (by kernel_rfl)) (qf hM) (fun JZ w hM  hst => qk hS.ev hst.appF rfl fun hS => ?_))
     replace hS : Ss _ _ _ H [JN] F _ _ := hS
     refine sO hS (yM rfl Tryd.runUnderlying23 Tryd.runUnderlying3) rfl fun hS => sM hS rfl fun hS => sO hS (yM rfl Tryd.runUnderlying23 Tryd.runUnderlying3) rfl fun hS => sM hS rfl fun hS => ql hS rfl Tryd.call28 (qo hG K JQ (16 : Int) (8 : Int) (hS.st.part 0 [0] (by kernel_rfl)) (qf hM) (fun J0 w hM  hst => qk hS.ev hst.appF rfl fun hS => ?_))
     replace hS : Ss _ _ _ H [JN] F _ _ := hS
     refine sM hS rfl fun hS => ql hS rfl Tryd.call28 (qo hG K JQ (24 : Int) (8 : Int) (hS.st.part 0 [0] (by kernel_rfl)) (qf hM) (fun J1 w hM  hst => qk hS.ev hst.appF rfl fun hS => ?_))
     replace hS : Ss _ _ _ H [JN] F _ _ := hS
     refine sM hS rfl fun hS => sO hS (yM rfl Tryd.runUnderlying23 Tryd.runUnderlying3) rfl fun hS => sM hS rfl fun hS => ql hS rfl Tryd.call28 (qo hG K JQ (40 : Int) (8 : Int) (hS.st.part 0 [0] (by kernel_rfl)) (qf hM) (fun J2 w hM  hst => qk hS.ev hst.appF rfl fun hS => ?_))
     replace hS : Ss _ _ _ H [JN] F _ _ := hS
     refine sM hS rfl fun hS => ql hS rfl Tryd.call28 (qo hG K JQ (48 : Int) (8 : Int) (hS.st.part 0 [0] (by kernel_rfl)) (qf hM) (fun J3 w hM  hst => qk hS.ev hst.appF rfl fun hS => ?_))
     replace hS : Ss _ _ _ H [JN] F _ _ := hS
     refine sO hS (jW ([.int .i64 (wr .i64 JY), .int .i64 (wr .i64 JZ), .int .i64 (wr .i64 JT), .int .u64 J0, .int .u64 J1, .int .i64 (wr .i64 JU), .int .u64 J2, .int .u64 J3]) [(0, 1), (1, 1), (2, 1), (3, 1), (4, 1), (5, 1), (6, 1), (7, 1)] Tryd.zeroValue58 Tryd.runUnderlying58 (by intro w; simp [Tryd.sizeOf23, Tryd.sizeOf3]) rfl (by kernel_rfl)) rfl fun hS => vQ (g := qb.cells) ([(qb.mk (wr .i64 JY) (wr .i64 JZ) (wr .i64 JT) J0 J1 (wr .i64 JU) J2 J3)] : List qb) [.agg ⟨[.int .i64 (wr .i64 JY), .int .i64 (wr .i64 JZ), .int .i64 (wr .i64 JT), .int .u64 J0, .int .u64 J1, .int .i64 (wr .i64 JU), .int .u64 J2, .int .u64 J3]⟩] hS Tryd.runUnderlying24 Tryd.sizeOf58 X.el58 rfl rfl rfl (by simp [Value.cells]) rfl rfl rfl rfl rfl fun w Vv Vx Vz Vf hS => ?_
     obtain ⟨Vl, hM⟩ := qL hM
     refine Xr (ys := ([(qb.mk (wr .i64 JY) (wr .i64 JZ) (wr .i64 JT) J0 J1 (wr .i64 JU) J2 J3)] : List qb)) 1 hS rfl rfl J4 rfl (Vf.rd (i := 0) rfl) Tryd.runUnderlying24 Tryd.runUnderlying24 X.el58 (fun _ => rfl) rfl QU Vl rfl fun Vm w Vn Vo Vs hz Vg hS => ?_
     have hM := qO hz hM; clear hz
     refine sA hS rfl fun hS => qN <| xr (qi ?_)
     refine zI <| sM hS rfl fun hS => sB hS rfl fun hS => zO (v := Value.int .i64) (x0 := (qM (JR + (1 : Int)))) hS (xK rfl) rfl fun Vt a w hz hS => ?_
     have hM := qO hz hM; clear hz
     refine qN <| qi ?_
     exact Vb _ _ ⟨Vn, Vo, Vm, Vs, Vt, hS.to [1] (by kernel_rfl) ⟨rfl, rfl, rfl, rfl, rfl, trivial⟩, Vg, hM⟩
  ·refine wp_exit ?_
   refine qK (qK (zi (qi ?_)))
   refine qn <| sM hS rfl fun hS => sA hS rfl fun hS => sA hS rfl fun hS => qs <| wp_ret ?_
   exact qT (rs := [6, 7]) hS rfl rfl (hret JW JX JP JN (0 : Int) _ (qC hM) J4 (hS.st.pick [0] (by kernel_rfl)))
theorem y8 {H : zB} {F : List qj} {w : World} {R : Ending → World → Prop} {kr : ((List qa) × (List Int) × Int) → Prop} {kp : Value → Prop} (hG : Gl H) (K : Nat) (JT : List UInt8) (JN : Int) (JU : Int)
    (hS : St w H [] F) (hm : (qm.m K JT JN JU).wp kr kp)
    (hret : ∀ (Vu : Option Addr) (Vx : Nat) (Vs : (List qa)) (VA : qj) (Vv : Option Addr) (Vy : Nat) (Vt : (List Int)) (VB : qj) (VD : Int) (w : World), kr (Vs, Vt, VD) → (zp 43 qa.cells 10 Vu Vs Vx VA) → (zp 23 (ci .u64) 1 Vv Vt Vy VB) → St w H [VA, VB] F → R (.returned (.tuple ⟨[.slice Vu Vs.length Vx, .slice Vv Vt.length Vy, .int .i64 VD]⟩)) w) :
    Calls Tryd.prog 31 ⟨[qr JT, .int .i64 JN, .int .i64 JU]⟩ w R := by
 refine enter Tryd.func31 rfl Tryd.ntmps31 rfl hS fun a w hS => ?_
 have hM := hm; clear hm
 rw [qm.m] at hM
 refine qn <| sA hS rfl fun hS => ?_
 obtain ⟨UG, Uv, hS⟩ := hS.nilV 43 qa.cells 10
 refine sA hS rfl fun hS => ?_
 obtain ⟨UH, Uw, hS⟩ := hS.nilV 23 (ci .u64) 1
 refine sA hS rfl fun hS => qs <| zq (fun a w => Ss 100 [] [(0, qr JT), (1, .int .i64 JN), (2, .int .i64 JU)] H [] F a w ∧ (qm.j2 K JT JN JU).wp kr kp) (fun UA VJ => ?_) ?_
 ·refine wp_seq ?_
  refine zI <| sA hS rfl fun hS => qs <| yp <| zz (fun VC a w => ∃ (Vl : Int), Ss 100 [] [(0, qr JT), (1, .int .i64 JN), (2, .int .i64 JU), (9, .int .i64 Vl)] H [] F a w ∧ (qm.l1 K JT JN JU VC Vl).wp kr kp) K ?_ ?_ ?_
  ·exact ⟨(0 : Int), hS.to [] (by kernel_rfl) ⟨rfl, rfl, rfl, rfl, trivial⟩, hM⟩
  ·intro a w hI; obtain ⟨_, _, hM⟩ := hI; exact zA hM
  ·intro VC a w hI Uz VI
   obtain ⟨Vl, hS, hM⟩ := hI
   rw [qm.l1] at hM
   refine wp_seq <| qn <| sM hS rfl fun hS => sB hS rfl fun hS => qs <| qI hS rfl hM (fun V0 hM => ?_) (fun V0 hM => ?_)
   ·refine wp_skip ?_
    refine qi <| wp_seq <| yp <| qn <| sM hS rfl fun hS => sM hS rfl fun hS => sM hS rfl fun hS => sB hS rfl fun hS => ?_
    obtain ⟨V6, hM⟩ := qL hM
    refine sO hS (Q9 rfl rfl Tryd.runUnderlying9 V6) rfl fun hS => sB hS rfl fun hS => qs <| qI hS rfl hM (fun V1 hM => ?_) (fun V1 hM => ?_)
    ·refine wp_seq ?_
     refine zI <| sA hS rfl fun hS => ?_
     obtain ⟨Uh, VM, hS⟩ := hS.nilV 43 qa.cells 10
     refine sA hS rfl fun hS => ?_
     obtain ⟨Ui, VN, hS⟩ := hS.nilV 23 (ci .u64) 1
     refine sA hS rfl fun hS => qs <| wp_ret <| zK (qx (qx (zK (qx ?_))))
     exact qT (rs := [6, 7, 8]) hS rfl rfl (hret none (0) ([] : List qa) Uh none (0) ([] : List Int) Ui (3 : Int) _ (qC hM) VM VN (hS.st.pick [1, 0] (by kernel_rfl)))
    ·refine wp_skip ?_
     refine xr (qi ?_)
     refine zI <| sM hS rfl fun hS => sB hS rfl fun hS => zO (v := Value.int .i64) (x0 := (qM (Vl + (1 : Int)))) hS (xK rfl) rfl fun Ut a w hz hS => ?_
     have hM := qO hz hM; clear hz
     refine qN <| qi ?_
     exact VI _ _ ⟨Ut, hS.to [] (by kernel_rfl) ⟨rfl, rfl, rfl, rfl, trivial⟩, hM⟩
   ·refine wp_exit ?_
    refine qK (qK (zi (qi ?_)))
    exact VJ _ _ ⟨hS.to [] (by kernel_rfl) ⟨rfl, rfl, rfl, trivial⟩, hM⟩
 ·intro a w hI
  obtain ⟨hS, hM⟩ := hI
  rw [qm.j2] at hM
  refine qn <| sA hS rfl fun hS => ?_
  obtain ⟨Uj, VO, hS⟩ := hS.nilV 43 qa.cells 10
  refine qs <| qn <| sA hS rfl fun hS => ?_
  obtain ⟨Uk, VP, hS⟩ := hS.nilV 23 (ci .u64) 1
  refine qs <| zq (fun a w => ∃ (Ve : Option Addr) (Vg : Nat) (J5 : (List qa)) (Vj : qj) (Vf : Option Addr) (Vh : Nat) (JV : (List Int)) (Vk : qj), Ss 100 [] [(10, .slice Ve J5.length Vg), (11, .slice Vf JV.length Vh)] H [Vj, Vk] F a w ∧ (zp 43 qa.cells 10 Ve J5 Vg Vj) ∧ (zp 23 (ci .u64) 1 Vf JV Vh Vk) ∧ (qm.j5 K J5 JV).wp kr kp) (fun UD VL => ?_) ?_
  ·refine wp_seq ?_
   refine zI <| sA hS rfl fun hS => qs <| yp <| zz (fun Vq a w => ∃ (J9 : Option Addr) (Vb : Nat) (JW : (List qa)) (JR : qj) (Va : Option Addr) (Vc : Nat) (JO : (List Int)) (JP : qj) (J6 : Int), Ss 100 [] [(0, qr JT), (1, .int .i64 JN), (2, .int .i64 JU), (10, .slice J9 JW.length Vb), (11, .slice Va JO.length Vc), (12, .int .i64 J6)] H [JR, JP] F a w ∧ (zp 43 qa.cells 10 J9 JW Vb JR) ∧ (zp 23 (ci .u64) 1 Va JO Vc JP) ∧ (qm.l3 K JT JN JU Vq JW JO J6).wp kr kp) K ?_ ?_ ?_
   ·exact ⟨none, 0, ([] : List qa), Uj, none, 0, ([] : List Int), Uk, (1 : Int), hS.to [1, 0] (by kernel_rfl) ⟨rfl, rfl, rfl, rfl, rfl, rfl, trivial⟩, VO, VP, hM⟩
   ·intro a w hI; obtain ⟨_, _, _, _, _, _, _, _, _, _, _, _, hM⟩ := hI; exact zA hM
   ·intro Vq a w hI UC VK
    obtain ⟨J9, Vb, JW, JR, Va, Vc, JO, JP, J6, hS, Vo, Vp, hM⟩ := hI
    rw [qm.l3] at hM
    refine wp_seq <| qn <| sM hS rfl fun hS => sM hS rfl fun hS => sB hS rfl fun hS => qs <| qI hS rfl hM (fun V2 hM => ?_) (fun V2 hM => ?_)
    ·refine wp_skip ?_
     refine qi <| wp_seq <| yp <| qn <| sM hS rfl fun hS => sM hS rfl fun hS => sM hS rfl fun hS => sB hS rfl fun hS => sB hS rfl fun hS => sM hS rfl fun hS => sM hS rfl fun hS => sB hS rfl fun hS => sB hS rfl fun hS => sB hS rfl fun hS => ?_
     obtain ⟨V7, hM⟩ := qL hM
     refine sO hS (QJ rfl Tryd.runUnderlying9 (Xy rfl) (QQ rfl) V7) rfl fun hS => zO (v := qr) (x0 := (sub JT (qM (JN + (qM ((64 : Int) * J6)))) (qM ((qM (JN + (qM ((64 : Int) * J6)))) + (64 : Int))))) hS (xK rfl) rfl fun JX a w hz hS => ?_
     have hM := qO hz hM; clear hz
     refine qs <| qn <| sM hS rfl fun hS => ql hS rfl Tryd.call28 (qo hG K JX (4 : Int) (4 : Int) (hS.st.part 0 [0, 1] (by kernel_rfl)) (qf hM) (fun JY w hM  hst => qk hS.ev hst.appF rfl fun hS => ?_))
     replace hS : Ss _ _ _ H [JR, JP] F _ _ := hS
     refine sO hS (yM rfl Tryd.runUnderlying23 Tryd.runUnderlying3) rfl fun hS => sM hS rfl fun hS => ql hS rfl Tryd.call28 (qo hG K JX (8 : Int) (8 : Int) (hS.st.part 0 [0, 1] (by kernel_rfl)) (qf hM) (fun JZ w hM  hst => qk hS.ev hst.appF rfl fun hS => ?_))
     replace hS : Ss _ _ _ H [JR, JP] F _ _ := hS
     refine sM hS rfl fun hS => ql hS rfl Tryd.call28 (qo hG K JX (16 : Int) (8 : Int) (hS.st.part 0 [0, 1] (by kernel_rfl)) (qf hM) (fun J0 w hM  hst => qk hS.ev hst.appF rfl fun hS => ?_))
     replace hS : Ss _ _ _ H [JR, JP] F _ _ := hS
     refine sM hS rfl fun hS => ql hS rfl Tryd.call28 (qo hG K JX (40 : Int) (4 : Int) (hS.st.part 0 [0, 1] (by kernel_rfl)) (qf hM) (fun J1 w hM  hst => qk hS.ev hst.appF rfl fun hS => ?_))
     replace hS : Ss _ _ _ H [JR, JP] F _ _ := hS
     refine sO hS (yM rfl Tryd.runUnderlying23 Tryd.runUnderlying3) rfl fun hS => sM hS rfl fun hS => ql hS rfl Tryd.call28 (qo hG K JX (44 : Int) (4 : Int) (hS.st.part 0 [0, 1] (by kernel_rfl)) (qf hM) (fun J2 w hM  hst => qk hS.ev hst.appF rfl fun hS => ?_))
     replace hS : Ss _ _ _ H [JR, JP] F _ _ := hS
     refine sO hS (yM rfl Tryd.runUnderlying23 Tryd.runUnderlying3) rfl fun hS => sM hS rfl fun hS => ql hS rfl Tryd.call28 (qo hG K JX (48 : Int) (8 : Int) (hS.st.part 0 [0, 1] (by kernel_rfl)) (qf hM) (fun J3 w hM  hst => qk hS.ev hst.appF rfl fun hS => ?_))
     replace hS : Ss _ _ _ H [JR, JP] F _ _ := hS
     refine sM hS rfl fun hS => ql hS rfl Tryd.call28 (qo hG K JX (56 : Int) (8 : Int) (hS.st.part 0 [0, 1] (by kernel_rfl)) (qf hM) (fun J4 w hM  hst => qk hS.ev hst.appF rfl fun hS => ?_))
     replace hS : Ss _ _ _ H [JR, JP] F _ _ := hS
     refine sO hS (jW ([qr ([] : List UInt8), .int .i64 (wr .i64 JY), .int .u64 JZ, .int .u64 J0, qr ([] : List UInt8), .int .i64 (0 : Int), .int .i64 (wr .i64 J1), .int .i64 (wr .i64 J2), .int .u64 J3, .int .u64 J4]) [(0, 1), (1, 1), (2, 1), (3, 1), (4, 1), (5, 1), (6, 1), (7, 1), (8, 1), (9, 1)] Tryd.zeroValue43 Tryd.runUnderlying43 (by intro w; simp [Tryd.sizeOf23, Tryd.sizeOf3, Tryd.sizeOf9]) rfl (by kernel_rfl)) rfl fun hS => jY ([qr ([] : List UInt8), .int .i64 (0 : Int), .int .u64 (0 : Int), .int .u64 (0 : Int), qr ([] : List UInt8), .int .i64 (0 : Int), .int .i64 (0 : Int), .int .i64 (0 : Int), .int .u64 (0 : Int), .int .u64 (0 : Int)]) hS Tryd.zeroValue43 rfl rfl fun w Vw UI VE hS => jr 0 ([qr ([] : List UInt8), .int .i64 (wr .i64 JY), .int .u64 JZ, .int .u64 J0, qr ([] : List UInt8), .int .i64 (0 : Int), .int .i64 (wr .i64 J1), .int .i64 (wr .i64 J2), .int .u64 J3, .int .u64 J4]) ([qr ([] : List UInt8), .int .i64 (wr .i64 JY), .int .u64 JZ, .int .u64 J0, qr ([] : List UInt8), .int .i64 (0 : Int), .int .i64 (wr .i64 J1), .int .i64 (wr .i64 J2), .int .u64 J3, .int .u64 J4]) hS rfl rfl VE rfl rfl Tryd.sizeOf43 (by simp [Value.oneCell']) (Nat.le_of_ble_eq_true rfl) rfl fun w Vm Vd hS => qs <| qn <| sM hS rfl fun hS => ql hS rfl Tryd.call28 (qo hG K JX (24 : Int) (8 : Int) (hS.st.part 0 [0, 1, 2] (by kernel_rfl)) (qf hM) (fun J7 w hM  hst => qk hS.ev hst.appF rfl fun hS => ?_))
     replace hS : Ss _ _ _ H [Vm, JR, JP] F _ _ := hS
     refine sA hS rfl fun hS => qs <| qn <| sM hS rfl fun hS => ql hS rfl Tryd.call28 (qo hG K JX (32 : Int) (8 : Int) (hS.st.part 0 [0, 1, 2] (by kernel_rfl)) (qf hM) (fun J8 w hM  hst => qk hS.ev hst.appF rfl fun hS => ?_))
     replace hS : Ss _ _ _ H [Vm, JR, JP] F _ _ := hS
     refine sA hS rfl fun hS => qs <| wp_seq <| qn <| sM hS rfl fun hS => sB hS rfl fun hS => sM hS rfl fun hS => xy 2 false 67 (b := (decide (J7 > (1099511627776 : Int)))) (r := (decide (J8 > (1099511627776 : Int)))) hS rfl rfl rfl rfl rfl rfl rfl (fun hb a w hS K hK => ?_) rfl fun a w hS => ?_
     ·refine qw hS rfl rfl rfl hb (mv rfl) rfl fun a w hS => ?_
      refine qw hS rfl rfl rfl hb (x6 rfl rfl rfl) rfl fun a w hS => ?_
      exact qN (hK _ _ (hS.up 2 rfl rfl))
     refine qs <| qI hS rfl hM (fun V3 hM => ?_) (fun V3 hM => ?_)
     ·refine wp_seq ?_
      refine zI <| sA hS rfl fun hS => ?_
      obtain ⟨Ul, VQ, hS⟩ := hS.nilV 43 qa.cells 10
      refine sA hS rfl fun hS => ?_
      obtain ⟨Um, VR, hS⟩ := hS.nilV 23 (ci .u64) 1
      refine sA hS rfl fun hS => qs <| wp_ret <| qx (zK (qx (qx (zK (qx ?_)))))
      exact qT (rs := [6, 7, 8]) hS rfl rfl (hret none (0) ([] : List qa) Ul none (0) ([] : List Int) Um (3 : Int) _ (qC hM) VQ VR (hS.st.pick [1, 0] (by kernel_rfl)))
     ·refine wp_skip ?_
      refine qi <| zq (fun a w => ∃ (JQ : List UInt8) (JS : Int) (Vi : qj), Ss 100 [] [(0, qr JT), (1, .int .i64 JN), (2, .int .i64 JU), (10, .slice J9 JW.length Vb), (11, .slice Va JO.length Vc), (12, .int .i64 J6), (13, qr JX), (14, qp Vw 0)] H [JR, JP, Vi] F a w ∧ (zH Vi Vw ([qr ([] : List UInt8), .int .i64 (wr .i64 JY), .int .u64 JZ, .int .u64 J0, qr JQ, .int .i64 JS, .int .i64 (wr .i64 J1), .int .i64 (wr .i64 J2), .int .u64 J3, .int .u64 J4]) 43) ∧ (qm.j4 K (qm.l3 K JT JN JU Vq) JW JO J6 JX JY JZ J0 J1 J2 J3 J4 JQ JS).wp kr kp) (fun UB Vn => ?_) ?_
      ·refine wp_seq ?_
       refine zI <| sO hS (qU rfl Tryd.runUnderlying43 rfl Tryd.sizeOf3 rfl) rfl fun hS => sO hS (zD 0 rfl Vd rfl rfl Tryd.isAgg3) rfl fun hS => sB hS rfl fun hS => qs <| qI hS rfl hM (fun V4 hM => ?_) (fun V4 hM => ?_)
       ·refine zI ?_
        refine sM hS rfl fun hS => sO hS (yM rfl Tryd.runUnderlying23 Tryd.runUnderlying3) rfl fun hS => sO hS (qU rfl Tryd.runUnderlying43 rfl Tryd.sizeOf3 rfl) rfl fun hS => y3 0 ([qr ([] : List UInt8), .int .i64 (wr .i64 JY), .int .u64 JZ, .int .u64 J0, qr ([] : List UInt8), .int .i64 (wr .i64 J8), .int .i64 (wr .i64 J1), .int .i64 (wr .i64 J2), .int .u64 J3, .int .u64 J4]) hS rfl rfl Vd rfl rfl rfl rfl Tryd.sizeOf3 fun w Un VF hS => qN <| qi ?_
        exact Vn _ _ ⟨([] : List UInt8), (wr .i64 J8), Un, hS.to [1, 2, 0] (by kernel_rfl) ⟨rfl, rfl, rfl, rfl, rfl, rfl, rfl, rfl, trivial⟩, VF, hM⟩
       ·refine wp_seq ?_
        refine qn <| sM hS rfl fun hS => sM hS rfl fun hS => sM hS rfl fun hS => ql hS rfl Tryd.call29 (xl hG K JT J7 J8 (hS.st.part 0 [0, 1, 2] (by kernel_rfl)) (qf hM) (fun UK w hM  hst => qk hS.ev hst.appF rfl fun hS => ?_))
        replace hS : Ss _ _ _ H [Vm, JR, JP] F _ _ := hS
        refine sO hS (un rfl rfl) rfl fun hS => qs <| qI hS rfl hM (fun V5 hM => ?_) (fun V5 hM => ?_)
        ·refine wp_seq ?_
         refine zI <| sA hS rfl fun hS => ?_
         obtain ⟨Uo, VS, hS⟩ := hS.nilV 43 qa.cells 10
         refine sA hS rfl fun hS => ?_
         obtain ⟨Up, VT, hS⟩ := hS.nilV 23 (ci .u64) 1
         refine sA hS rfl fun hS => qs <| wp_ret <| qx (qx (zK (qx (qx (zK (qx ?_))))))
         exact qT (rs := [6, 7, 8]) hS rfl rfl (hret none (0) ([] : List qa) Uo none (0) ([] : List Int) Up (2 : Int) _ (qC hM) VS VT (hS.st.pick [1, 0] (by kernel_rfl)))
        ·refine wp_skip ?_
         refine qi <| zI <| sM hS rfl fun hS => sM hS rfl fun hS => sM hS rfl fun hS => sM hS rfl fun hS => sB hS rfl fun hS => ?_
         obtain ⟨V8, hM⟩ := qL hM
         refine sO hS (QJ rfl Tryd.runUnderlying9 (Xy rfl) (QQ rfl) V8) rfl fun hS => sO hS (qU rfl Tryd.runUnderlying43 rfl Tryd.sizeOf9 rfl) rfl fun hS => y3 0 ([qr ([] : List UInt8), .int .i64 (wr .i64 JY), .int .u64 JZ, .int .u64 J0, qr (sub JT J7 (wr .u64 (J7 + J8))), .int .i64 (0 : Int), .int .i64 (wr .i64 J1), .int .i64 (wr .i64 J2), .int .u64 J3, .int .u64 J4]) hS rfl rfl Vd rfl rfl rfl rfl Tryd.sizeOf9 fun w Uq VG hS => qN <| qi ?_
         exact Vn _ _ ⟨(sub JT J7 (wr .u64 (J7 + J8))), (0 : Int), Uq, hS.to [1, 2, 0] (by kernel_rfl) ⟨rfl, rfl, rfl, rfl, rfl, rfl, rfl, rfl, trivial⟩, VG, hM⟩
      ·intro a w hI
       obtain ⟨JQ, JS, Vi, hS, VH, hM⟩ := hI
       rw [qm.j4] at hM
       refine qn <| sM hS rfl fun hS => sO hS (xR 2 rfl VH rfl ([qr ([] : List UInt8), .int .i64 (wr .i64 JY), .int .u64 JZ, .int .u64 J0, qr JQ, .int .i64 JS, .int .i64 (wr .i64 J1), .int .i64 (wr .i64 J2), .int .u64 J3, .int .u64 J4]) rfl rfl Tryd.isAgg43 Tryd.sizeOf43) rfl fun hS => vQ (g := qa.cells) ([(qa.mk ([] : List UInt8) (wr .i64 JY) JZ J0 JQ JS (wr .i64 J1) (wr .i64 J2) J3 J4)] : List qa) [.agg ⟨[qr ([] : List UInt8), .int .i64 (wr .i64 JY), .int .u64 JZ, .int .u64 J0, qr JQ, .int .i64 JS, .int .i64 (wr .i64 J1), .int .i64 (wr .i64 J2), .int .u64 J3, .int .u64 J4]⟩] hS Tryd.runUnderlying25 Tryd.sizeOf43 X.el43 rfl rfl rfl (by simp [Value.cells]) rfl rfl rfl rfl rfl fun w Ux UE Ur VU hS => ?_
       obtain ⟨V9, hM⟩ := qL hM
       refine Xr (ys := ([(qa.mk ([] : List UInt8) (wr .i64 JY) JZ J0 JQ JS (wr .i64 J1) (wr .i64 J2) J3 J4)] : List qa)) 1 hS rfl rfl Vo rfl (VU.rd (i := 0) rfl) Tryd.runUnderlying25 Tryd.runUnderlying25 X.el43 (fun _ => rfl) rfl QT V9 rfl fun Ub w Ud Uf Vz hz VV hS => ?_
       have hM := qO hz hM; clear hz
       refine sA hS rfl fun hS => qs <| zI <| sM hS rfl fun hS => sM hS rfl fun hS => ql hS rfl Tryd.call28 (qo hG K JX (0 : Int) (4 : Int) (hS.st.part 0 [0, 1, 2, 3] (by kernel_rfl)) (qf hM) (fun Vr w hM  hst => qk hS.ev hst.appF rfl fun hS => ?_))
       replace hS : Ss _ _ _ H [Ur, Vz, JP, Vi] F _ _ := hS
       refine vQ (g := (ci .u64)) ([Vr] : List Int) [.int .u64 Vr] hS Tryd.runUnderlying73 Tryd.sizeOf23 X.el23 rfl rfl rfl (by simp [Value.cells]) rfl rfl rfl rfl rfl fun w Uy UF UJ VW hS => ?_
       obtain ⟨Ua, hM⟩ := qL hM
       refine Xr (ys := ([Vr] : List Int)) 3 hS rfl rfl Vp rfl (VW.rd (i := 0) rfl) Tryd.runUnderlying73 Tryd.runUnderlying73 X.el23 (fun _ => rfl) rfl Xc Ua rfl fun Uc w Ue Ug Us hz VX hS => ?_
       have hM := qO hz hM; clear hz
       refine sA hS rfl fun hS => qN <| xr (qi ?_)
       refine zI <| sM hS rfl fun hS => sB hS rfl fun hS => zO (v := Value.int .i64) (x0 := (qM (J6 + (1 : Int)))) hS (xK rfl) rfl fun Uu a w hz hS => ?_
       have hM := qO hz hM; clear hz
       refine qN <| qi ?_
       exact VK _ _ ⟨Ud, Uf, Ub, Vz, Ue, Ug, Uc, Us, Uu, hS.to [2, 3] (by kernel_rfl) ⟨rfl, rfl, rfl, rfl, rfl, rfl, trivial⟩, VV, VX, hM⟩
    ·refine wp_exit ?_
     refine qK (qK (zi (qi ?_)))
     exact VL _ _ ⟨J9, Vb, JW, JR, Va, Vc, JO, JP, hS.to [0, 1] (by kernel_rfl) ⟨rfl, rfl, trivial⟩, Vo, Vp, hM⟩
  ·intro a w hI
   obtain ⟨Ve, Vg, J5, Vj, Vf, Vh, JV, Vk, hS, VY, VZ, hM⟩ := hI
   rw [qm.j5] at hM
   refine qn <| sM hS rfl fun hS => sM hS rfl fun hS => sA hS rfl fun hS => sA hS rfl fun hS => sA hS rfl fun hS => qs <| wp_ret ?_
   exact qT (rs := [6, 7, 8]) hS rfl rfl (hret Ve Vg J5 Vj Vf Vh JV Vk (0 : Int) _ (qC hM) VY VZ (hS.st.pick [0, 1] (by kernel_rfl)))
theorem jE {H : zB} {F : List qj} {w : World} {R : Ending → World → Prop} {kr : ((List UInt8) × Bool) → Prop} {kp : Value → Prop} (hG : Gl H) (K : Nat) (JN : List UInt8) (JO : Int)
    (hS : St w H [] F) (hm : (q9.m K JN JO).wp kr kp)
    (hret : ∀ (JR : List UInt8) (JS : Bool) (w : World), kr (JR, JS) → St w H [] F → R (.returned (.tuple ⟨[qr JR, .bool JS]⟩)) w) :
    Calls Tryd.prog 32 ⟨[qr JN, .int .u64 JO]⟩ w R := by
 refine enter Tryd.func32 rfl Tryd.ntmps32 rfl hS fun a w hS => ?_
 have hM := hm; clear hm
 rw [q9.m] at hM
 refine qn <| sA hS rfl fun hS => sA hS rfl fun hS => qs <| wp_seq <| qn <| sM hS rfl fun hS => sM hS rfl fun hS => sO hS (yi rfl Tryd.runUnderlying9) rfl fun hS => sO hS (yM rfl Tryd.runUnderlying3 Tryd.runUnderlying23) rfl fun hS => sB hS rfl fun hS => qs <| qI hS rfl hM (fun JU hM => ?_) (fun JU hM => ?_)
 ·refine wp_seq ?_
  refine zI <| sA hS rfl fun hS => sA hS rfl fun hS => qs <| wp_ret <| qx ?_
  exact qT (rs := [4, 5]) hS rfl rfl (hret ([] : List UInt8) false _ (qC hM) (hS.st.pick [] (by kernel_rfl)))
 ·refine wp_skip ?_
  refine qi <| wp_seq <| qn <| sM hS rfl fun hS => sO hS (yM rfl Tryd.runUnderlying23 Tryd.runUnderlying3) rfl fun hS => zO (v := Value.int .i64) (x0 := (wr .i64 JO)) hS (xK rfl) rfl fun JZ a w hz hS => ?_
  have hM := qO hz hM; clear hz
  refine qs <| yp <| zz (fun JQ a w => ∃ (JP : Int), Ss 33 [] [(0, qr JN), (1, .int .u64 JO), (6, .int .i64 JP)] H [] F a w ∧ (q9.l1 K JN JO JQ JP).wp kr kp) K ?_ ?_ ?_
  ·exact ⟨JZ, hS.to [] (by kernel_rfl) ⟨rfl, rfl, rfl, trivial⟩, hM⟩
  ·intro a w hI; obtain ⟨_, _, hM⟩ := hI; exact zA hM
  ·intro JQ a w hI J3 JT
   obtain ⟨JP, hS, hM⟩ := hI
   rw [q9.l1] at hM
   refine wp_seq <| qn <| sM hS rfl fun hS => sM hS rfl fun hS => sO hS (yi rfl Tryd.runUnderlying9) rfl fun hS => sB hS rfl fun hS => qs <| qI hS rfl hM (fun JV hM => ?_) (fun JV hM => ?_)
   ·refine wp_skip ?_
    refine qi <| wp_seq <| yp <| qn <| sM hS rfl fun hS => sM hS rfl fun hS => ?_
    obtain ⟨JX, hM⟩ := qL hM
    refine sO hS (Q9 rfl rfl Tryd.runUnderlying9 JX) rfl fun hS => sB hS rfl fun hS => qs <| qI hS rfl hM (fun JW hM => ?_) (fun JW hM => ?_)
    ·refine wp_seq ?_
     refine zI <| sM hS rfl fun hS => sM hS rfl fun hS => sM hS rfl fun hS => ?_
     obtain ⟨JY, hM⟩ := qL hM
     refine sO hS (QJ rfl Tryd.runUnderlying9 (Xy rfl) (QQ rfl) JY) rfl fun hS => sM hS rfl fun hS => sM hS rfl fun hS => sO hS (yM rfl Tryd.runUnderlying23 Tryd.runUnderlying3) rfl fun hS => sB hS rfl fun hS => sB hS rfl fun hS => zO (v := qr) (x0 := (sub JN JO JP)) hS (xK rfl) rfl fun J1 a w hz hS => ?_
     have hM := qO hz hM; clear hz
     refine zO (v := Value.bool) (x0 := (decide ((qM (JP - (wr .i64 JO))) ≤ (200 : Int)))) hS (xK rfl) rfl fun J2 a w hz hS => ?_
     have hM := qO hz hM; clear hz
     refine qs <| wp_ret <| zK (qx (qx (zK (qx ?_))))
     exact qT (rs := [4, 5]) hS rfl rfl (hret J1 J2 _ (qC hM) (hS.st.pick [] (by kernel_rfl)))
    ·refine wp_skip ?_
     refine xr (qi ?_)
     refine zI <| sM hS rfl fun hS => sB hS rfl fun hS => zO (v := Value.int .i64) (x0 := (qM (JP + (1 : Int)))) hS (xK rfl) rfl fun J0 a w hz hS => ?_
     have hM := qO hz hM; clear hz
     refine qN <| qi ?_
     exact JT _ _ ⟨J0, hS.to [] (by kernel_rfl) ⟨rfl, rfl, rfl, trivial⟩, hM⟩
   ·refine wp_exit ?_
    refine qK (qK (zi (qi ?_)))
    refine qn <| sA hS rfl fun hS => sA hS rfl fun hS => qs <| wp_ret ?_
    exact qT (rs := [4, 5]) hS rfl rfl (hret ([] : List UInt8) false _ (qC hM) (hS.st.pick [] (by kernel_rfl)))
theorem jD {H : zB} {F : List qj} {w : World} {R : Ending → World → Prop} {kr : (Int × Int × Int × Int × (List qb) × (List qa) × Int) → Prop} {kp : Value → Prop} (hG : Gl H) (K : Nat) (JN : List UInt8)
    (hS : St w H [] F) (hm : (qe.m K JN).wp kr kp)
    (hret : ∀ (Vz : Int) (Vj : Int) (Vx : Int) (Vy : Int) (Uf : Option Addr) (Ui : Nat) (J8 : (List qb)) (Uo : qj) (Ug : Option Addr) (Uj : Nat) (J7 : (List qa)) (Up : qj) (Ut : Int) (w : World), kr (Vz, Vj, Vx, Vy, J8, J7, Ut) → (zp 58 qb.cells 8 Uf J8 Ui Uo) → (zp 43 qa.cells 10 Ug J7 Uj Up) → St w H [Uo, Up] F → R (.returned (.tuple ⟨[.agg ⟨[.int .i64 Vz, .int .i64 Vj, .int .u64 Vx, .int .i64 Vy, .slice Uf J8.length Ui, .slice Ug J7.length Uj]⟩, .int .i64 Ut]⟩)) w) :
    Calls Tryd.prog 11 ⟨[qr JN]⟩ w R := by
 refine enter Tryd.func11 rfl Tryd.ntmps11 rfl hS fun a w hS => ?_
 have hM := hm; clear hm
 rw [qe.m] at hM
 refine qn <| jY ([.int .i64 (0 : Int), .int .i64 (0 : Int), .int .u64 (0 : Int), .int .i64 (0 : Int), .slice none 0 0, .slice none 0 0]) hS Tryd.zeroValue27 rfl rfl fun w J4 JT J6 hS => ?_
 obtain ⟨JU, KJ, hS⟩ := hS.nilV 58 qb.cells 8
 obtain ⟨JV, KK, hS⟩ := hS.nilV 43 qa.cells 10
 refine sA hS rfl fun hS => qs <| wp_seq <| qn <| sM hS rfl fun hS => sO hS (yi rfl Tryd.runUnderlying9) rfl fun hS => sB hS rfl fun hS => qs <| qI hS rfl hM (fun U5 hM => ?_) (fun U5 hM => ?_)
 ·refine wp_seq ?_
  refine zI <| sO hS (jW ([.int .i64 (0 : Int), .int .i64 (0 : Int), .int .u64 (0 : Int), .int .i64 (0 : Int), .slice none 0 0, .slice none 0 0]) [(0, 1), (1, 1), (2, 1), (3, 1), (4, 1), (5, 1)] Tryd.zeroValue27 Tryd.runUnderlying27 (by intro w; simp [Tryd.sizeOf23, Tryd.sizeOf24, Tryd.sizeOf25, Tryd.sizeOf3]) rfl rfl) rfl fun hS => jr 2 ([.int .i64 (0 : Int), .int .i64 (0 : Int), .int .u64 (0 : Int), .int .i64 (0 : Int), .slice none 0 0, .slice none 0 0]) ([.int .i64 (0 : Int), .int .i64 (0 : Int), .int .u64 (0 : Int), .int .i64 (0 : Int), .slice none 0 0, .slice none 0 0]) hS rfl rfl J6 rfl rfl Tryd.sizeOf27 (by simp [Value.oneCell']) (Nat.le_of_ble_eq_true rfl) rfl fun w KX Uu hS => ?_
  obtain ⟨Kh, UK, hS⟩ := hS.nilV 58 qb.cells 8
  obtain ⟨Ki, UL, hS⟩ := hS.nilV 43 qa.cells 10
  refine sA hS rfl fun hS => qs <| wp_ret <| qx ?_
  exact xX (vs := [.agg ⟨[.int .i64 (0 : Int), .int .i64 (0 : Int), .int .u64 (0 : Int), .int .i64 (0 : Int), .slice none ([] : List qb).length (0), .slice none ([] : List qa).length (0)]⟩, .int .i64 (2 : Int)]) hS rfl (by exact ⟨uZ 4 ([.int .i64 (0 : Int), .int .i64 (0 : Int), .int .u64 (0 : Int), .int .i64 (0 : Int), .slice none ([] : List qb).length (0), .slice none ([] : List qa).length (0)]) rfl Uu rfl rfl rfl Tryd.isAgg27 Tryd.sizeOf27, Zf rfl, trivial⟩) (hret (0 : Int) (0 : Int) (0 : Int) (0 : Int) none (0) ([] : List qb) Kh none (0) ([] : List qa) Ki (2 : Int) _ (qC hM) UK UL (hS.st.pick [1, 0] (by kernel_rfl)))
 ·refine wp_skip ?_
  refine qi <| qn <| sM hS rfl fun hS => ql hS rfl Tryd.call28 (qo hG K JN (56 : Int) (2 : Int) (hS.st.part 0 [0, 1, 2] (by kernel_rfl)) (qf hM) (fun KD w hM  hst => qk hS.ev hst.appF rfl fun hS => ?_))
  replace hS : Ss _ _ _ H [JV, JU, JT] F _ _ := hS
  refine sO hS (yM rfl Tryd.runUnderlying23 Tryd.runUnderlying3) rfl fun hS => zO (v := Value.int .i64) (x0 := (wr .i64 KD)) hS (xK rfl) rfl fun JX a w hz hS => ?_
  have hM := qO hz hM; clear hz
  refine qs <| qn <| sM hS rfl fun hS => ql hS rfl Tryd.call28 (qo hG K JN (60 : Int) (2 : Int) (hS.st.part 0 [0, 1, 2] (by kernel_rfl)) (qf hM) (fun KE w hM  hst => qk hS.ev hst.appF rfl fun hS => ?_))
  replace hS : Ss _ _ _ H [JV, JU, JT] F _ _ := hS
  refine sO hS (yM rfl Tryd.runUnderlying23 Tryd.runUnderlying3) rfl fun hS => zO (v := Value.int .i64) (x0 := (wr .i64 KE)) hS (xK rfl) rfl fun JW a w hz hS => ?_
  have hM := qO hz hM; clear hz
  refine qs <| wp_seq <| zq (fun a w => ∃ (Ub : Bool), Ss 190 [] [(0, qr JN), (2, qp J4 0), (4, .int .i64 JX), (5, .int .i64 JW), (52, .bool Ub)] H [JT, JU, JV] F a w ∧ (qe.j1 K JN JX JW Ub).wp kr kp) (fun KO Vp => ?_) ?_
  ·obtain ⟨VM, hM⟩ := qL hM
   refine qR (vals := [some (qr JN), some (qr (sub JN (0 : Int) (16 : Int))), none, none, none, none, none, none, none, none, none, none, none, none, none, none, none, none, none, none, none, none, none, none, none, none]) hS xe rfl ?_
   intro l w ho hcl hA hst
   refine yA hA hst ho hcl zU xf 2 [0, 1] rfl rfl rfl rfl rfl (by exact ⟨nM rfl, nQ rfl (by exact qH (QJ rfl Tryd.runUnderlying9 Xx (QQ rfl) VM) rfl), trivial⟩) fun D l a w ho hcl hav hpre hm hE hk hA hst => ?_
   have hS := (Ss.mk hE hst).env2 (e' := []) trivial
   refine qy rfl ?_
   obtain ⟨Kf, hM⟩ := qL hM
   refine Jo (g := (ci .u8)) (m := (9 : Int)) (0 : Int) hS rfl rfl (by simp) Tryd.runUnderlying40 X.el5 (fun w => ⟨_, Tryd.zeroValue5 w, rfl⟩) (fun _ => rfl) rfl rfl Kf rfl fun JQ w Ve Vf VP hz V6 hS => ?_
   have hM := qO hz hM; clear hz
   refine qs ?_
   replace hst := hS.st
   obtain ⟨V7, hM⟩ := qL hM
   refine um (b := (!((sub JN (0 : Int) (16 : Int)) == (([127, 69, 76, 70, 2, 1, 1] : List UInt8) ++ (JQ.map yt))))) hM (fun VI hM => ?_) (fun VI hM => ?_)
   ·obtain ⟨hcl, hmust, hav2, hA⟩ := dn (vals' := [some (qr JN), some (qr (sub JN (0 : Int) (16 : Int))), some (.slice Ve JQ.length Vf), some (qr (JQ.map yt)), some (qr (([127, 69, 76, 70, 2, 1, 1] : List UInt8) ++ (JQ.map yt))), some (.bool true), some (.bool true), some (undef), some (undef), some (undef), some (.bool true), some (.bool true), some (undef), some (undef), some (undef), some (.bool true), some (.bool true), some (undef), some (undef), some (undef), some (.bool true), some (.bool true), some (undef), some (undef), some (undef), some (.bool true)]) 2 [] hA hcl hav hm hpre hk rfl rfl rfl rfl rfl rfl rfl
    clear hm hav
    refine xL hA hst ho hcl hmust [0, 1, 3, 4, 5, 6, 7, 8, 9, 10, 11, 12, 13, 14, 15, 16, 17, 18, 19, 20, 21, 22, 23, 24, 25] rfl rfl rfl (by exact ⟨nM rfl, nQ rfl (by exact qH (QJ rfl Tryd.runUnderlying9 Xx (QQ rfl) VM) rfl), nQ rfl (by exact qH (YV rfl Tryd.runUnderlying40 Tryd.runUnderlying5 Tryd.runUnderlying9 (V6.rd (i := 0) rfl)) rfl), nQ rfl (by exact qH (Ya rfl rfl V7) rfl), nQ rfl (by exact qH (vW rfl rfl rfl) (congrArg Value.bool VI)), nM rfl, nS rfl rfl rfl rfl rfl rfl rfl rfl rfl, nS rfl rfl rfl rfl rfl rfl rfl rfl rfl, nS rfl rfl rfl rfl rfl rfl rfl rfl rfl, nQ rfl (by exact qH (pk rfl rfl rfl) rfl), nM rfl, nS rfl rfl rfl rfl rfl rfl rfl rfl rfl, nS rfl rfl rfl rfl rfl rfl rfl rfl rfl, nS rfl rfl rfl rfl rfl rfl rfl rfl rfl, nQ rfl (by exact qH (pk rfl rfl rfl) rfl), nM rfl, nS rfl rfl rfl rfl rfl rfl rfl rfl rfl, nS rfl rfl rfl rfl rfl rfl rfl rfl rfl, nS rfl rfl rfl rfl rfl rfl rfl rfl rfl, nQ rfl (by exact qH (pk rfl rfl rfl) rfl), nM rfl, nS rfl rfl rfl rfl rfl rfl rfl rfl rfl, nS rfl rfl rfl rfl rfl rfl rfl rfl rfl, nS rfl rfl rfl rfl rfl rfl rfl rfl rfl, nQ rfl (by exact qH (pk rfl rfl rfl) rfl), trivial⟩) fun a w hS => ?_
    replace hS := hS.env2 (e' := [(0, qr JN), (2, qp J4 0), (4, .int .i64 JX), (5, .int .i64 JW), (52, .bool true)]) ⟨rfl, rfl, rfl, rfl, rfl, trivial⟩
    refine qi ?_
    exact Vp _ _ ⟨true, hS.to [3, 2, 1] (by kernel_rfl) ⟨rfl, rfl, rfl, rfl, rfl, trivial⟩, hM⟩
   ·obtain ⟨hcl, hmust, hav2, hA⟩ := dn (vals' := [some (qr JN), some (qr (sub JN (0 : Int) (16 : Int))), some (.slice Ve JQ.length Vf), some (qr (JQ.map yt)), some (qr (([127, 69, 76, 70, 2, 1, 1] : List UInt8) ++ (JQ.map yt))), some (.bool false), some (.bool false), some (qr JN), none, none, none, none, none, none, none, none, none, none, none, none, none, none, none, none, none, none]) 2 [] hA hcl hav hm hpre hk rfl rfl rfl rfl rfl rfl rfl
    clear hm hav
    refine yA hA hst ho hcl hav2 hmust 8 [0, 1, 3, 4, 5, 6, 7] rfl rfl rfl rfl rfl (by exact ⟨nM rfl, nQ rfl (by exact qH (QJ rfl Tryd.runUnderlying9 Xx (QQ rfl) VM) rfl), nQ rfl (by exact qH (YV rfl Tryd.runUnderlying40 Tryd.runUnderlying5 Tryd.runUnderlying9 (V6.rd (i := 0) rfl)) rfl), nQ rfl (by exact qH (Ya rfl rfl V7) rfl), nQ rfl (by exact qH (vW rfl rfl rfl) (congrArg Value.bool VI)), nM rfl, nW rfl rfl rfl rfl rfl rfl rfl rfl (by exact qH (mv rfl) rfl), trivial⟩) fun D l a w ho hcl hav hpre hm hE hk hA hst => ?_
    have hS := (Ss.mk hE hst).env2 (e' := [(33, .bool false), (34, qr JN)]) ⟨rfl, rfl, trivial⟩
    refine qy rfl <| z5 hS rfl rfl rfl rfl <| ql hS rfl Tryd.call28 (qo hG K JN (20 : Int) (4 : Int) (hS.st.part 0 [0, 1, 2, 3] (by kernel_rfl)) (qf hM) (fun Vk w hM  hst => qk hS.ev hst.appF rfl fun hS => ?_))
    replace hS : Ss _ _ _ H [VP, JV, JU, JT] F _ _ := hS
    refine qs ?_
    replace hst := hS.st
    refine um (b := (Vk != (1 : Int))) hM (fun VJ hM => ?_) (fun VJ hM => ?_)
    ·obtain ⟨hcl, hmust, hav2, hA⟩ := dn (vals' := [some (qr JN), some (qr (sub JN (0 : Int) (16 : Int))), some (.slice Ve JQ.length Vf), some (qr (JQ.map yt)), some (qr (([127, 69, 76, 70, 2, 1, 1] : List UInt8) ++ (JQ.map yt))), some (.bool false), some (.bool false), some (qr JN), some (.int .u64 Vk), some (.bool true), some (.bool true), some (.bool true), some (undef), some (undef), some (undef), some (.bool true), some (.bool true), some (undef), some (undef), some (undef), some (.bool true), some (.bool true), some (undef), some (undef), some (undef), some (.bool true)]) 8 [(6, 8), (7, 8), (5, 6), (1, 5), (4, 5), (0, 1), (3, 4), (2, 3)] hA hcl hav hm hpre hk rfl rfl rfl rfl rfl rfl rfl
     clear hm hav
     refine xL hA hst ho hcl hmust [9, 10, 11, 12, 13, 14, 15, 16, 17, 18, 19, 20, 21, 22, 23, 24, 25] rfl rfl rfl (by exact ⟨nW rfl rfl rfl rfl rfl rfl rfl rfl (by exact qH (x6 rfl rfl rfl) (congrArg Value.bool VJ)), nQ rfl (by exact qH (pk rfl rfl rfl) rfl), nM rfl, nS rfl rfl rfl rfl rfl rfl rfl rfl rfl, nS rfl rfl rfl rfl rfl rfl rfl rfl rfl, nS rfl rfl rfl rfl rfl rfl rfl rfl rfl, nQ rfl (by exact qH (pk rfl rfl rfl) rfl), nM rfl, nS rfl rfl rfl rfl rfl rfl rfl rfl rfl, nS rfl rfl rfl rfl rfl rfl rfl rfl rfl, nS rfl rfl rfl rfl rfl rfl rfl rfl rfl, nQ rfl (by exact qH (pk rfl rfl rfl) rfl), nM rfl, nS rfl rfl rfl rfl rfl rfl rfl rfl rfl, nS rfl rfl rfl rfl rfl rfl rfl rfl rfl, nS rfl rfl rfl rfl rfl rfl rfl rfl rfl, nQ rfl (by exact qH (pk rfl rfl rfl) rfl), trivial⟩) fun a w hS => ?_
     replace hS := hS.env2 (e' := [(0, qr JN), (2, qp J4 0), (4, .int .i64 JX), (5, .int .i64 JW), (52, .bool true)]) ⟨rfl, rfl, rfl, rfl, rfl, trivial⟩
     refine qi ?_
     exact Vp _ _ ⟨true, hS.to [3, 2, 1] (by kernel_rfl) ⟨rfl, rfl, rfl, rfl, rfl, trivial⟩, hM⟩
    ·obtain ⟨hcl, hmust, hav2, hA⟩ := dn (vals' := [some (qr JN), some (qr (sub JN (0 : Int) (16 : Int))), some (.slice Ve JQ.length Vf), some (qr (JQ.map yt)), some (qr (([127, 69, 76, 70, 2, 1, 1] : List UInt8) ++ (JQ.map yt))), some (.bool false), some (.bool false), some (qr JN), some (.int .u64 Vk), some (.bool false), some (.bool false), some (.bool false), some (qr JN), none, none, none, none, none, none, none, none, none, none, none, none, none]) 8 [(6, 8), (7, 8), (5, 6), (1, 5), (4, 5), (0, 1), (3, 4), (2, 3)] hA hcl hav hm hpre hk rfl rfl rfl rfl rfl rfl rfl
     clear hm hav
     refine yA hA hst ho hcl hav2 hmust 13 [9, 10, 11, 12] rfl rfl rfl rfl rfl (by exact ⟨nW rfl rfl rfl rfl rfl rfl rfl rfl (by exact qH (x6 rfl rfl rfl) (congrArg Value.bool VJ)), nQ rfl (by exact qH (pk rfl rfl rfl) rfl), nM rfl, nW rfl rfl rfl rfl rfl rfl rfl rfl (by exact qH (mv rfl) rfl), trivial⟩) fun D l a w ho hcl hav hpre hm hE hk hA hst => ?_
     have hS := (Ss.mk hE hst).env2 (e' := [(38, .bool false), (39, qr JN)]) ⟨rfl, rfl, trivial⟩
     refine qy rfl <| z5 hS rfl rfl rfl rfl <| ql hS rfl Tryd.call28 (qo hG K JN (52 : Int) (2 : Int) (hS.st.part 0 [0, 1, 2, 3] (by kernel_rfl)) (qf hM) (fun VA w hM  hst => qk hS.ev hst.appF rfl fun hS => ?_))
     replace hS : Ss _ _ _ H [VP, JV, JU, JT] F _ _ := hS
     refine qs ?_
     replace hst := hS.st
     refine um (b := (VA != (64 : Int))) hM (fun VK hM => ?_) (fun VK hM => ?_)
     ·obtain ⟨hcl, hmust, hav2, hA⟩ := dn (vals' := [some (qr JN), some (qr (sub JN (0 : Int) (16 : Int))), some (.slice Ve JQ.length Vf), some (qr (JQ.map yt)), some (qr (([127, 69, 76, 70, 2, 1, 1] : List UInt8) ++ (JQ.map yt))), some (.bool false), some (.bool false), some (qr JN), some (.int .u64 Vk), some (.bool false), some (.bool false), some (.bool false), some (qr JN), some (.int .u64 VA), some (.bool true), some (.bool true), some (.bool true), some (undef), some (undef), some (undef), some (.bool true), some (.bool true), some (undef), some (undef), some (undef), some (.bool true)]) 13 [(11, 13), (12, 13), (8, 11), (10, 11), (6, 8), (7, 8), (9, 10), (5, 6), (1, 5), (4, 5), (0, 1), (3, 4), (2, 3)] hA hcl hav hm hpre hk rfl rfl rfl rfl rfl rfl rfl
      clear hm hav
      refine xL hA hst ho hcl hmust [14, 15, 16, 17, 18, 19, 20, 21, 22, 23, 24, 25] rfl rfl rfl (by exact ⟨nW rfl rfl rfl rfl rfl rfl rfl rfl (by exact qH (x6 rfl rfl rfl) (congrArg Value.bool VK)), nQ rfl (by exact qH (pk rfl rfl rfl) rfl), nM rfl, nS rfl rfl rfl rfl rfl rfl rfl rfl rfl, nS rfl rfl rfl rfl rfl rfl rfl rfl rfl, nS rfl rfl rfl rfl rfl rfl rfl rfl rfl, nQ rfl (by exact qH (pk rfl rfl rfl) rfl), nM rfl, nS rfl rfl rfl rfl rfl rfl rfl rfl rfl, nS rfl rfl rfl rfl rfl rfl rfl rfl rfl, nS rfl rfl rfl rfl rfl rfl rfl rfl rfl, nQ rfl (by exact qH (pk rfl rfl rfl) rfl), trivial⟩) fun a w hS => ?_
      replace hS := hS.env2 (e' := [(0, qr JN), (2, qp J4 0), (4, .int .i64 JX), (5, .int .i64 JW), (52, .bool true)]) ⟨rfl, rfl, rfl, rfl, rfl, trivial⟩
      refine qi ?_
      exact Vp _ _ ⟨true, hS.to [3, 2, 1] (by kernel_rfl) ⟨rfl, rfl, rfl, rfl, rfl, trivial⟩, hM⟩
     ·obtain ⟨hcl, hmust, hav2, hA⟩ := dn (vals' := [some (qr JN), some (qr (sub JN (0 : Int) (16 : Int))), some (.slice Ve JQ.length Vf), some (qr (JQ.map yt)), some (qr (([127, 69, 76, 70, 2, 1, 1] : List UInt8) ++ (JQ.map yt))), some (.bool false), some (.bool false), some (qr JN), some (.int .u64 Vk), some (.bool false), some (.bool false), some (.bool false), some (qr JN), some (.int .u64 VA), some (.bool false), some (.bool false), some (.bool false), some (qr JN), none, none, none, none, none, none, none, none]) 13 [(11, 13), (12, 13), (8, 11), (10, 11), (6, 8), (7, 8), (9, 10), (5, 6), (1, 5), (4, 5), (0, 1), (3, 4), (2, 3)] hA hcl hav hm hpre hk rfl rfl rfl rfl rfl rfl rfl
      clear hm hav
      refine yA hA hst ho hcl hav2 hmust 18 [14, 15, 16, 17] rfl rfl rfl rfl rfl (by exact ⟨nW rfl rfl rfl rfl rfl rfl rfl rfl (by exact qH (x6 rfl rfl rfl) (congrArg Value.bool VK)), nQ rfl (by exact qH (pk rfl rfl rfl) rfl), nM rfl, nW rfl rfl rfl rfl rfl rfl rfl rfl (by exact qH (mv rfl) rfl), trivial⟩) fun D l a w ho hcl hav hpre hm hE hk hA hst => ?_
      have hS := (Ss.mk hE hst).env2 (e' := [(43, .bool false), (44, qr JN)]) ⟨rfl, rfl, trivial⟩
      refine qy rfl <| z5 hS rfl rfl rfl rfl <| ql hS rfl Tryd.call28 (qo hG K JN (54 : Int) (2 : Int) (hS.st.part 0 [0, 1, 2, 3] (by kernel_rfl)) (qf hM) (fun VW w hM  hst => qk hS.ev hst.appF rfl fun hS => ?_))
      replace hS : Ss _ _ _ H [VP, JV, JU, JT] F _ _ := hS
      refine qs ?_
      replace hst := hS.st
      refine um (b := (VW != (56 : Int))) hM (fun VL hM => ?_) (fun VL hM => ?_)
      ·obtain ⟨hcl, hmust, hav2, hA⟩ := dn (vals' := [some (qr JN), some (qr (sub JN (0 : Int) (16 : Int))), some (.slice Ve JQ.length Vf), some (qr (JQ.map yt)), some (qr (([127, 69, 76, 70, 2, 1, 1] : List UInt8) ++ (JQ.map yt))), some (.bool false), some (.bool false), some (qr JN), some (.int .u64 Vk), some (.bool false), some (.bool false), some (.bool false), some (qr JN), some (.int .u64 VA), some (.bool false), some (.bool false), some (.bool false), some (qr JN), some (.int .u64 VW), some (.bool true), some (.bool true), some (.bool true), some (undef), some (undef), some (undef), some (.bool true)]) 18 [(16, 18), (17, 18), (13, 16), (15, 16), (11, 13), (12, 13), (14, 15), (8, 11), (10, 11), (6, 8), (7, 8), (9, 10), (5, 6), (1, 5), (4, 5), (0, 1), (3, 4), (2, 3)] hA hcl hav hm hpre hk rfl rfl rfl rfl rfl rfl rfl
       clear hm hav
       refine xL hA hst ho hcl hmust [19, 20, 21, 22, 23, 24, 25] rfl rfl rfl (by exact ⟨nW rfl rfl rfl rfl rfl rfl rfl rfl (by exact qH (x6 rfl rfl rfl) (congrArg Value.bool VL)), nQ rfl (by exact qH (pk rfl rfl rfl) rfl), nM rfl, nS rfl rfl rfl rfl rfl rfl rfl rfl rfl, nS rfl rfl rfl rfl rfl rfl rfl rfl rfl, nS rfl rfl rfl rfl rfl rfl rfl rfl rfl, nQ rfl (by exact qH (pk rfl rfl rfl) rfl), trivial⟩) fun a w hS => ?_
       replace hS := hS.env2 (e' := [(0, qr JN), (2, qp J4 0), (4, .int .i64 JX), (5, .int .i64 JW), (52, .bool true)]) ⟨rfl, rfl, rfl, rfl, rfl, trivial⟩
       refine qi ?_
       exact Vp _ _ ⟨true, hS.to [3, 2, 1] (by kernel_rfl) ⟨rfl, rfl, rfl, rfl, rfl, trivial⟩, hM⟩
      ·obtain ⟨hcl, hmust, hav2, hA⟩ := dn (vals' := [some (qr JN), some (qr (sub JN (0 : Int) (16 : Int))), some (.slice Ve JQ.length Vf), some (qr (JQ.map yt)), some (qr (([127, 69, 76, 70, 2, 1, 1] : List UInt8) ++ (JQ.map yt))), some (.bool false), some (.bool false), some (qr JN), some (.int .u64 Vk), some (.bool false), some (.bool false), some (.bool false), some (qr JN), some (.int .u64 VA), some (.bool false), some (.bool false), some (.bool false), some (qr JN), some (.int .u64 VW), some (.bool false), some (.bool false), some (.bool false), some (qr JN), none, none, none]) 18 [(16, 18), (17, 18), (13, 16), (15, 16), (11, 13), (12, 13), (14, 15), (8, 11), (10, 11), (6, 8), (7, 8), (9, 10), (5, 6), (1, 5), (4, 5), (0, 1), (3, 4), (2, 3)] hA hcl hav hm hpre hk rfl rfl rfl rfl rfl rfl rfl
       clear hm hav
       refine yA hA hst ho hcl hav2 hmust 23 [19, 20, 21, 22] rfl rfl rfl rfl rfl (by exact ⟨nW rfl rfl rfl rfl rfl rfl rfl rfl (by exact qH (x6 rfl rfl rfl) (congrArg Value.bool VL)), nQ rfl (by exact qH (pk rfl rfl rfl) rfl), nM rfl, nW rfl rfl rfl rfl rfl rfl rfl rfl (by exact qH (mv rfl) rfl), trivial⟩) fun D l a w ho hcl hav hpre hm hE hk hA hst => ?_
       have hS := (Ss.mk hE hst).env2 (e' := [(48, .bool false), (49, qr JN)]) ⟨rfl, rfl, trivial⟩
       refine qy rfl <| z5 hS rfl rfl rfl rfl <| ql hS rfl Tryd.call28 (qo hG K JN (58 : Int) (2 : Int) (hS.st.part 0 [0, 1, 2, 3] (by kernel_rfl)) (qf hM) (fun VH w hM  hst => qk hS.ev hst.appF rfl fun hS => ?_))
       replace hS : Ss _ _ _ H [VP, JV, JU, JT] F _ _ := hS
       refine qs ?_
       replace hst := hS.st
       obtain ⟨hcl, hmust, hav2, hA⟩ := dn (vals' := [some (qr JN), some (qr (sub JN (0 : Int) (16 : Int))), some (.slice Ve JQ.length Vf), some (qr (JQ.map yt)), some (qr (([127, 69, 76, 70, 2, 1, 1] : List UInt8) ++ (JQ.map yt))), some (.bool false), some (.bool false), some (qr JN), some (.int .u64 Vk), some (.bool false), some (.bool false), some (.bool false), some (qr JN), some (.int .u64 VA), some (.bool false), some (.bool false), some (.bool false), some (qr JN), some (.int .u64 VW), some (.bool false), some (.bool false), some (.bool false), some (qr JN), some (.int .u64 VH), some (.bool (VH != (64 : Int))), some (.bool (VH != (64 : Int)))]) 23 [(21, 23), (22, 23), (18, 21), (20, 21), (16, 18), (17, 18), (19, 20), (13, 16), (15, 16), (11, 13), (12, 13), (14, 15), (8, 11), (10, 11), (6, 8), (7, 8), (9, 10), (5, 6), (1, 5), (4, 5), (0, 1), (3, 4), (2, 3)] hA hcl hav hm hpre hk rfl rfl rfl rfl rfl rfl rfl
       clear hm hav
       refine xL hA hst ho hcl hmust [24, 25] rfl rfl rfl (by exact ⟨nW rfl rfl rfl rfl rfl rfl rfl rfl (by exact qH (x6 rfl rfl rfl) rfl), nQ rfl (by exact qH (pk rfl rfl rfl) rfl), trivial⟩) fun a w hS => ?_
       replace hS := hS.env2 (e' := [(0, qr JN), (2, qp J4 0), (4, .int .i64 JX), (5, .int .i64 JW), (52, .bool (VH != (64 : Int)))]) ⟨rfl, rfl, rfl, rfl, rfl, trivial⟩
       refine qi ?_
       exact Vp _ _ ⟨(VH != (64 : Int)), hS.to [3, 2, 1] (by kernel_rfl) ⟨rfl, rfl, rfl, rfl, rfl, trivial⟩, hM⟩
  ·intro a w hI
   obtain ⟨Ub, hS, hM⟩ := hI
   rw [qe.j1] at hM
   refine qI hS rfl hM (fun U6 hM => ?_) (fun U6 hM => ?_)
   ·refine wp_seq ?_
    refine zI <| sO hS (jW ([.int .i64 (0 : Int), .int .i64 (0 : Int), .int .u64 (0 : Int), .int .i64 (0 : Int), .slice none 0 0, .slice none 0 0]) [(0, 1), (1, 1), (2, 1), (3, 1), (4, 1), (5, 1)] Tryd.zeroValue27 Tryd.runUnderlying27 (by intro w; simp [Tryd.sizeOf23, Tryd.sizeOf24, Tryd.sizeOf25, Tryd.sizeOf3]) rfl rfl) rfl fun hS => jr 0 ([.int .i64 (0 : Int), .int .i64 (0 : Int), .int .u64 (0 : Int), .int .i64 (0 : Int), .slice none 0 0, .slice none 0 0]) ([.int .i64 (0 : Int), .int .i64 (0 : Int), .int .u64 (0 : Int), .int .i64 (0 : Int), .slice none 0 0, .slice none 0 0]) hS rfl rfl J6 rfl rfl Tryd.sizeOf27 (by simp [Value.oneCell']) (Nat.le_of_ble_eq_true rfl) rfl fun w KY Uv hS => ?_
    obtain ⟨Kj, UM, hS⟩ := hS.nilV 58 qb.cells 8
    obtain ⟨Kk, UN, hS⟩ := hS.nilV 43 qa.cells 10
    refine sA hS rfl fun hS => qs <| wp_ret <| qx ?_
    exact xX (vs := [.agg ⟨[.int .i64 (0 : Int), .int .i64 (0 : Int), .int .u64 (0 : Int), .int .i64 (0 : Int), .slice none ([] : List qb).length (0), .slice none ([] : List qa).length (0)]⟩, .int .i64 (3 : Int)]) hS rfl (by exact ⟨uZ 2 ([.int .i64 (0 : Int), .int .i64 (0 : Int), .int .u64 (0 : Int), .int .i64 (0 : Int), .slice none ([] : List qb).length (0), .slice none ([] : List qa).length (0)]) rfl Uv rfl rfl rfl Tryd.isAgg27 Tryd.sizeOf27, Zf rfl, trivial⟩) (hret (0 : Int) (0 : Int) (0 : Int) (0 : Int) none (0) ([] : List qb) Kj none (0) ([] : List qa) Kk (3 : Int) _ (qC hM) UM UN (hS.st.pick [1, 0] (by kernel_rfl)))
   ·refine wp_skip ?_
    refine qi <| wp_seq <| qn <| sM hS rfl fun hS => sB hS rfl fun hS => sM hS rfl fun hS => zR (fun a w => ∃ (VG : Bool), Ss 190 [] [(0, qr JN), (2, qp J4 0), (4, .int .i64 JX), (5, .int .i64 JW), (63, .bool VG)] H [JT, JU, JV] F a w ∧ (qe.j2 K JN JX JW VG).wp kr kp) 7 (fun KP V0 => ?_) ?_
    ·refine um (b := (decide (JW < (2 : Int)))) hM (fun Vq hM => ?_) (fun Vq hM => ?_)
     ·replace hS := hS.re 55 (v := .bool true) rfl (congrArg Value.bool Vq)
      replace hS := hS.re 56 (v := .bool true) rfl (congrArg Value.bool Vq)
      refine yv 6 hS rfl fun a w hS => sO hS (pk rfl rfl rfl) rfl fun hS => qN <| qi ?_
      exact V0 _ _ ⟨true, hS.to [0, 1, 2] (by kernel_rfl) ⟨rfl, rfl, rfl, rfl, rfl, trivial⟩, hM⟩
     ·replace hS := hS.re 55 (v := .bool false) rfl (congrArg Value.bool Vq)
      replace hS := hS.re 56 (v := .bool false) rfl (congrArg Value.bool Vq)
      refine qw hS rfl rfl rfl rfl (mv rfl) rfl fun a w hS => z5 hS rfl rfl rfl rfl <| ql hS rfl Tryd.call28 (qo hG K JN (62 : Int) (2 : Int) (hS.st.part 0 [0, 1, 2] (by kernel_rfl)) (qf hM) (fun KF w hM  hst => qk hS.ev hst.appF rfl fun hS => ?_))
      replace hS : Ss _ _ _ H [JT, JU, JV] F _ _ := hS
      refine qw hS rfl rfl rfl rfl (yM rfl Tryd.runUnderlying23 Tryd.runUnderlying3) rfl fun a w hS => qw hS rfl rfl rfl rfl (mv rfl) rfl fun a w hS => qw hS rfl rfl rfl rfl (x6 rfl rfl rfl) rfl fun a w hS => qw hS rfl rfl rfl rfl (x6 rfl rfl rfl) rfl fun a w hS => sO hS (pk rfl rfl rfl) rfl fun hS => qN <| qi ?_
      exact V0 _ _ ⟨((wr .i64 KF) != (qM (JW - (1 : Int)))), hS.to [0, 1, 2] (by kernel_rfl) ⟨rfl, rfl, rfl, rfl, rfl, trivial⟩, hM⟩
    ·intro a w hI
     obtain ⟨VG, hS, hM⟩ := hI
     rw [qe.j2] at hM
     refine sM hS rfl fun hS => xy 2 false 64 (b := VG) (r := (decide (JX > (1000 : Int)))) hS rfl rfl rfl rfl rfl rfl rfl (fun hb a w hS K hK => ?_) rfl fun a w hS => ?_
     ·refine qw hS rfl rfl rfl hb (mv rfl) rfl fun a w hS => ?_
      refine qw hS rfl rfl rfl hb (x6 rfl rfl rfl) rfl fun a w hS => ?_
      exact qN (hK _ _ (hS.up 2 rfl rfl))
     refine sM hS rfl fun hS => xy 2 false 68 (b := (VG || (decide (JX > (1000 : Int))))) (r := (decide (JW > (1002 : Int)))) hS rfl rfl rfl rfl rfl rfl rfl (fun hb a w hS K hK => ?_) rfl fun a w hS => ?_
     ·refine qw hS rfl rfl rfl hb (mv rfl) rfl fun a w hS => ?_
      refine qw hS rfl rfl rfl hb (x6 rfl rfl rfl) rfl fun a w hS => ?_
      exact qN (hK _ _ (hS.up 2 rfl rfl))
     refine qs <| qI hS rfl hM (fun U7 hM => ?_) (fun U7 hM => ?_)
     ·refine wp_seq ?_
      refine zI <| sO hS (jW ([.int .i64 (0 : Int), .int .i64 (0 : Int), .int .u64 (0 : Int), .int .i64 (0 : Int), .slice none 0 0, .slice none 0 0]) [(0, 1), (1, 1), (2, 1), (3, 1), (4, 1), (5, 1)] Tryd.zeroValue27 Tryd.runUnderlying27 (by intro w; simp [Tryd.sizeOf23, Tryd.sizeOf24, Tryd.sizeOf25, Tryd.sizeOf3]) rfl rfl) rfl fun hS => jr 0 ([.int .i64 (0 : Int), .int .i64 (0 : Int), .int .u64 (0 : Int), .int .i64 (0 : Int), .slice none 0 0, .slice none 0 0]) ([.int .i64 (0 : Int), .int .i64 (0 : Int), .int .u64 (0 : Int), .int .i64 (0 : Int), .slice none 0 0, .slice none 0 0]) hS rfl rfl J6 rfl rfl Tryd.sizeOf27 (by simp [Value.oneCell']) (Nat.le_of_ble_eq_true rfl) rfl fun w KZ Uw hS => ?_
      obtain ⟨Kl, UO, hS⟩ := hS.nilV 58 qb.cells 8
      obtain ⟨Km, UP, hS⟩ := hS.nilV 43 qa.cells 10
      refine sA hS rfl fun hS => qs <| wp_ret <| qx ?_
      exact xX (vs := [.agg ⟨[.int .i64 (0 : Int), .int .i64 (0 : Int), .int .u64 (0 : Int), .int .i64 (0 : Int), .slice none ([] : List qb).length (0), .slice none ([] : List qa).length (0)]⟩, .int .i64 (3 : Int)]) hS rfl (by exact ⟨uZ 2 ([.int .i64 (0 : Int), .int .i64 (0 : Int), .int .u64 (0 : Int), .int .i64 (0 : Int), .slice none ([] : List qb).length (0), .slice none ([] : List qa).length (0)]) rfl Uw rfl rfl rfl Tryd.isAgg27 Tryd.sizeOf27, Zf rfl, trivial⟩) (hret (0 : Int) (0 : Int) (0 : Int) (0 : Int) none (0) ([] : List qb) Kl none (0) ([] : List qa) Km (3 : Int) _ (qC hM) UO UP (hS.st.pick [1, 0] (by kernel_rfl)))
     ·refine wp_skip ?_
      refine qi <| qn <| sM hS rfl fun hS => ql hS rfl Tryd.call28 (qo hG K JN (32 : Int) (8 : Int) (hS.st.part 0 [0, 1, 2] (by kernel_rfl)) (qf hM) (fun VB w hM  hst => qk hS.ev hst.appF rfl fun hS => ?_))
      replace hS : Ss _ _ _ H [JT, JU, JV] F _ _ := hS
      refine sA hS rfl fun hS => qs <| qn <| sM hS rfl fun hS => ql hS rfl Tryd.call28 (qo hG K JN (40 : Int) (8 : Int) (hS.st.part 0 [0, 1, 2] (by kernel_rfl)) (qf hM) (fun Vl w hM  hst => qk hS.ev hst.appF rfl fun hS => ?_))
      replace hS : Ss _ _ _ H [JT, JU, JV] F _ _ := hS
      refine sA hS rfl fun hS => qs <| wp_seq <| qn <| sM hS rfl fun hS => sB hS rfl fun hS => sM hS rfl fun hS => zR (fun a w => ∃ (VT : Bool), Ss 190 [] [(0, qr JN), (2, qp J4 0), (4, .int .i64 JX), (5, .int .i64 JW), (6, .int .u64 VB), (7, .int .u64 Vl), (87, .bool VT)] H [JT, JU, JV] F a w ∧ (qe.j3 K JN JX JW VB Vl VT).wp kr kp) 8 (fun KQ V1 => ?_) ?_
      ·refine um (b := (decide (JX > (0 : Int)))) hM (fun Vr hM => ?_) (fun Vr hM => ?_)
       ·replace hS := hS.re 78 (v := .bool true) rfl (congrArg Value.bool Vr)
        replace hS := hS.re 79 (v := .bool true) rfl (congrArg Value.bool Vr)
        refine qw hS rfl rfl rfl rfl (mv rfl) rfl fun a w hS => qw hS rfl rfl rfl rfl (mv rfl) rfl fun a w hS => qw hS rfl rfl rfl rfl (mv rfl) rfl fun a w hS => qw hS rfl rfl rfl rfl (x6 rfl rfl rfl) rfl fun a w hS => qw hS rfl rfl rfl rfl (yM rfl Tryd.runUnderlying3 Tryd.runUnderlying23) rfl fun a w hS => z5 hS rfl rfl rfl rfl <| ql hS rfl Tryd.call29 (xl hG K JN VB (wr .u64 (qM ((56 : Int) * JX))) (hS.st.part 0 [0, 1, 2] (by kernel_rfl)) (qf hM) (fun KG w hM  hst => qk hS.ev hst.appF rfl fun hS => ?_))
        replace hS : Ss _ _ _ H [JT, JU, JV] F _ _ := hS
        refine qw hS rfl rfl rfl rfl (un rfl rfl) rfl fun a w hS => sO hS (pk rfl rfl rfl) rfl fun hS => qN <| qi ?_
        exact V1 _ _ ⟨(!KG), hS.to [0, 1, 2] (by kernel_rfl) ⟨rfl, rfl, rfl, rfl, rfl, rfl, rfl, trivial⟩, hM⟩
       ·replace hS := hS.re 78 (v := .bool false) rfl (congrArg Value.bool Vr)
        replace hS := hS.re 79 (v := .bool false) rfl (congrArg Value.bool Vr)
        refine yv 7 hS rfl fun a w hS => sO hS (pk rfl rfl rfl) rfl fun hS => qN <| qi ?_
        exact V1 _ _ ⟨false, hS.to [0, 1, 2] (by kernel_rfl) ⟨rfl, rfl, rfl, rfl, rfl, rfl, rfl, trivial⟩, hM⟩
      ·intro a w hI
       obtain ⟨VT, hS, hM⟩ := hI
       rw [qe.j3] at hM
       refine sM hS rfl fun hS => zR (fun a w => ∃ (Uc : Bool), Ss 190 [] [(0, qr JN), (2, qp J4 0), (4, .int .i64 JX), (5, .int .i64 JW), (6, .int .u64 VB), (7, .int .u64 Vl), (96, .bool Uc)] H [JT, JU, JV] F a w ∧ (qe.j4 K JN JX JW VB Vl Uc).wp kr kp) 8 (fun KR V2 => ?_) ?_
       ·refine um (b := VT) hM (fun Vs hM => ?_) (fun Vs hM => ?_)
        ·replace hS := hS.re 87 (v := .bool true) rfl (congrArg Value.bool Vs)
         replace hS := hS.re 88 (v := .bool true) rfl (congrArg Value.bool Vs)
         refine yv 7 hS rfl fun a w hS => sO hS (pk rfl rfl rfl) rfl fun hS => qN <| qi ?_
         exact V2 _ _ ⟨true, hS.to [0, 1, 2] (by kernel_rfl) ⟨rfl, rfl, rfl, rfl, rfl, rfl, rfl, trivial⟩, hM⟩
        ·replace hS := hS.re 87 (v := .bool false) rfl (congrArg Value.bool Vs)
         replace hS := hS.re 88 (v := .bool false) rfl (congrArg Value.bool Vs)
         refine qw hS rfl rfl rfl rfl (mv rfl) rfl fun a w hS => qw hS rfl rfl rfl rfl (mv rfl) rfl fun a w hS => qw hS rfl rfl rfl rfl (mv rfl) rfl fun a w hS => qw hS rfl rfl rfl rfl (x6 rfl rfl rfl) rfl fun a w hS => qw hS rfl rfl rfl rfl (yM rfl Tryd.runUnderlying3 Tryd.runUnderlying23) rfl fun a w hS => z5 hS rfl rfl rfl rfl <| ql hS rfl Tryd.call29 (xl hG K JN Vl (wr .u64 (qM ((64 : Int) * JW))) (hS.st.part 0 [0, 1, 2] (by kernel_rfl)) (qf hM) (fun KH w hM  hst => qk hS.ev hst.appF rfl fun hS => ?_))
         replace hS : Ss _ _ _ H [JT, JU, JV] F _ _ := hS
         refine qw hS rfl rfl rfl rfl (un rfl rfl) rfl fun a w hS => sO hS (pk rfl rfl rfl) rfl fun hS => qN <| qi ?_
         exact V2 _ _ ⟨(!KH), hS.to [0, 1, 2] (by kernel_rfl) ⟨rfl, rfl, rfl, rfl, rfl, rfl, rfl, trivial⟩, hM⟩
       ·intro a w hI
        obtain ⟨Uc, hS, hM⟩ := hI
        rw [qe.j4] at hM
        refine qs <| qI hS rfl hM (fun U8 hM => ?_) (fun U8 hM => ?_)
        ·refine wp_seq ?_
         refine zI <| sO hS (jW ([.int .i64 (0 : Int), .int .i64 (0 : Int), .int .u64 (0 : Int), .int .i64 (0 : Int), .slice none 0 0, .slice none 0 0]) [(0, 1), (1, 1), (2, 1), (3, 1), (4, 1), (5, 1)] Tryd.zeroValue27 Tryd.runUnderlying27 (by intro w; simp [Tryd.sizeOf23, Tryd.sizeOf24, Tryd.sizeOf25, Tryd.sizeOf3]) rfl rfl) rfl fun hS => jr 0 ([.int .i64 (0 : Int), .int .i64 (0 : Int), .int .u64 (0 : Int), .int .i64 (0 : Int), .slice none 0 0, .slice none 0 0]) ([.int .i64 (0 : Int), .int .i64 (0 : Int), .int .u64 (0 : Int), .int .i64 (0 : Int), .slice none 0 0, .slice none 0 0]) hS rfl rfl J6 rfl rfl Tryd.sizeOf27 (by simp [Value.oneCell']) (Nat.le_of_ble_eq_true rfl) rfl fun w K0 Ux hS => ?_
         obtain ⟨Kn, UQ, hS⟩ := hS.nilV 58 qb.cells 8
         obtain ⟨Ko, UR, hS⟩ := hS.nilV 43 qa.cells 10
         refine sA hS rfl fun hS => qs <| wp_ret <| qx ?_
         exact xX (vs := [.agg ⟨[.int .i64 (0 : Int), .int .i64 (0 : Int), .int .u64 (0 : Int), .int .i64 (0 : Int), .slice none ([] : List qb).length (0), .slice none ([] : List qa).length (0)]⟩, .int .i64 (2 : Int)]) hS rfl (by exact ⟨uZ 2 ([.int .i64 (0 : Int), .int .i64 (0 : Int), .int .u64 (0 : Int), .int .i64 (0 : Int), .slice none ([] : List qb).length (0), .slice none ([] : List qa).length (0)]) rfl Ux rfl rfl rfl Tryd.isAgg27 Tryd.sizeOf27, Zf rfl, trivial⟩) (hret (0 : Int) (0 : Int) (0 : Int) (0 : Int) none (0) ([] : List qb) Kn none (0) ([] : List qa) Ko (2 : Int) _ (qC hM) UQ UR (hS.st.pick [1, 0] (by kernel_rfl)))
        ·refine wp_skip ?_
         refine qi <| qn <| sM hS rfl fun hS => ql hS rfl Tryd.call28 (qo hG K JN (16 : Int) (2 : Int) (hS.st.part 0 [0, 1, 2] (by kernel_rfl)) (qf hM) (fun J0 w hM  hst => qk hS.ev hst.appF rfl fun hS => ?_))
         replace hS : Ss _ _ _ H [JT, JU, JV] F _ _ := hS
         refine sO hS (yM rfl Tryd.runUnderlying23 Tryd.runUnderlying3) rfl fun hS => sM hS rfl fun hS => ql hS rfl Tryd.call28 (qo hG K JN (18 : Int) (2 : Int) (hS.st.part 0 [0, 1, 2] (by kernel_rfl)) (qf hM) (fun J1 w hM  hst => qk hS.ev hst.appF rfl fun hS => ?_))
         replace hS : Ss _ _ _ H [JT, JU, JV] F _ _ := hS
         refine sO hS (yM rfl Tryd.runUnderlying23 Tryd.runUnderlying3) rfl fun hS => sM hS rfl fun hS => ql hS rfl Tryd.call28 (qo hG K JN (24 : Int) (8 : Int) (hS.st.part 0 [0, 1, 2] (by kernel_rfl)) (qf hM) (fun J2 w hM  hst => qk hS.ev hst.appF rfl fun hS => ?_))
         replace hS : Ss _ _ _ H [JT, JU, JV] F _ _ := hS
         refine sM hS rfl fun hS => ql hS rfl Tryd.call28 (qo hG K JN (48 : Int) (4 : Int) (hS.st.part 0 [0, 1, 2] (by kernel_rfl)) (qf hM) (fun J3 w hM  hst => qk hS.ev hst.appF rfl fun hS => ?_))
         replace hS : Ss _ _ _ H [JT, JU, JV] F _ _ := hS
         refine sO hS (yM rfl Tryd.runUnderlying23 Tryd.runUnderlying3) rfl fun hS => sO hS (jW ([.int .i64 (wr .i64 J0), .int .i64 (wr .i64 J1), .int .u64 J2, .int .i64 (wr .i64 J3), .slice none 0 0, .slice none 0 0]) [(0, 1), (1, 1), (2, 1), (3, 1), (4, 1), (5, 1)] Tryd.zeroValue27 Tryd.runUnderlying27 (by intro w; simp [Tryd.sizeOf23, Tryd.sizeOf24, Tryd.sizeOf25, Tryd.sizeOf3]) rfl rfl) rfl fun hS => jY ([.int .i64 (0 : Int), .int .i64 (0 : Int), .int .u64 (0 : Int), .int .i64 (0 : Int), .slice none 0 0, .slice none 0 0]) hS Tryd.zeroValue27 rfl rfl fun w Vm K1 Uy hS => ?_
         obtain ⟨Kp, KL, hS⟩ := hS.nilV 58 qb.cells 8
         obtain ⟨Kq, KM, hS⟩ := hS.nilV 43 qa.cells 10
         refine jr 2 ([.int .i64 (wr .i64 J0), .int .i64 (wr .i64 J1), .int .u64 J2, .int .i64 (wr .i64 J3), .slice none 0 0, .slice none 0 0]) ([.int .i64 (wr .i64 J0), .int .i64 (wr .i64 J1), .int .u64 J2, .int .i64 (wr .i64 J3), .slice none 0 0, .slice none 0 0]) hS rfl rfl Uy rfl rfl Tryd.sizeOf27 (by simp [Value.oneCell']) (Nat.le_of_ble_eq_true rfl) rfl fun w Uk VY hS => ?_
         obtain ⟨Ul, US, hS⟩ := hS.nilV 58 qb.cells 8
         obtain ⟨Vi, KN, hS⟩ := hS.nilV 43 qa.cells 10
         refine qs <| qn <| sA hS rfl fun hS => qs <| zq (fun a w => ∃ (Va : Option Addr) (Vb : Nat) (JO : (List qb)) (Vc : qj) (Vg : qj) (Vn : Int), Ss 190 [] [(0, qr JN), (2, qp J4 0), (5, .int .i64 JW), (7, .int .u64 Vl), (8, qp Vm 0), (9, .int .i64 Vn)] H [JT, JU, JV, Vg, Vc, Vi] F a w ∧ (zp 58 qb.cells 8 Va JO Vb Vc) ∧ (zH Vg Vm ([.int .i64 (wr .i64 J0), .int .i64 (wr .i64 J1), .int .u64 J2, .int .i64 (wr .i64 J3), .slice Va JO.length Vb, .slice none ([] : List qa).length (0)]) 27) ∧ (qe.j5 K JN JW Vl J0 J1 J2 J3 JO Vn).wp kr kp) (fun KS V3 => ?_) ?_
         ·refine wp_seq ?_
          refine zI <| sM hS rfl fun hS => sB hS rfl fun hS => qs <| qI hS rfl hM (fun U9 hM => ?_) (fun U9 hM => ?_)
          ·refine zI ?_
           refine sM hS rfl fun hS => sM hS rfl fun hS => sO hS (yM rfl Tryd.runUnderlying23 Tryd.runUnderlying3) rfl fun hS => sM hS rfl fun hS => ql hS rfl Tryd.call30 (y9 hG K JN (wr .i64 VB) JX (hS.st.part 0 [0, 1, 2, 3, 4, 5, 6, 7] (by kernel_rfl)) (qf hM) (fun Ue Uh Ur Um KI w hM KB hst => qk hS.ev hst.appF rfl fun hS => ?_))
           replace hS : Ss _ _ _ H [Um, Vi, Ul, Kq, Kp, Uk, JT, JU, JV] F _ _ := hS
           refine sM hS rfl fun hS => sO hS (ex rfl rfl) rfl fun hS => sO hS (ex rfl rfl) rfl fun hS => sO hS (qU rfl Tryd.runUnderlying27 rfl Tryd.sizeOf24 rfl) rfl fun hS => y3 5 ([.int .i64 (wr .i64 J0), .int .i64 (wr .i64 J1), .int .u64 J2, .int .i64 (wr .i64 J3), .slice Ue Ur.length Uh, .slice none ([] : List qa).length (0)]) hS rfl rfl VY rfl rfl rfl rfl Tryd.sizeOf24 fun w Kr Uz hS => sA hS rfl fun hS => qN <| qi ?_
           exact V3 _ _ ⟨Ue, Uh, Ur, Um, Kr, KI, hS.to [6, 7, 8, 5, 0, 1] (by kernel_rfl) ⟨rfl, rfl, rfl, rfl, rfl, rfl, trivial⟩, KB, Uz, hM⟩
          ·refine wp_skip ?_
           refine qi ?_
           exact V3 _ _ ⟨none, 0, ([] : List qb), Ul, Uk, (0 : Int), hS.to [5, 6, 7, 4, 1, 0] (by kernel_rfl) ⟨rfl, rfl, rfl, rfl, rfl, rfl, trivial⟩, US, VY, hM⟩
         ·intro a w hI
          obtain ⟨Va, Vb, JO, Vc, Vg, Vn, hS, UT, UA, hM⟩ := hI
          rw [qe.j5] at hM
          refine wp_seq <| qn <| sM hS rfl fun hS => sB hS rfl fun hS => qs <| qI hS rfl hM (fun Ka hM => ?_) (fun Ka hM => ?_)
          ·refine wp_seq ?_
           refine zI <| sO hS (jW ([.int .i64 (0 : Int), .int .i64 (0 : Int), .int .u64 (0 : Int), .int .i64 (0 : Int), .slice none 0 0, .slice none 0 0]) [(0, 1), (1, 1), (2, 1), (3, 1), (4, 1), (5, 1)] Tryd.zeroValue27 Tryd.runUnderlying27 (by intro w; simp [Tryd.sizeOf23, Tryd.sizeOf24, Tryd.sizeOf25, Tryd.sizeOf3]) rfl rfl) rfl fun hS => sM hS rfl fun hS => jr 0 ([.int .i64 (0 : Int), .int .i64 (0 : Int), .int .u64 (0 : Int), .int .i64 (0 : Int), .slice none 0 0, .slice none 0 0]) ([.int .i64 (0 : Int), .int .i64 (0 : Int), .int .u64 (0 : Int), .int .i64 (0 : Int), .slice none 0 0, .slice none 0 0]) hS rfl rfl J6 rfl rfl Tryd.sizeOf27 (by simp [Value.oneCell']) (Nat.le_of_ble_eq_true rfl) rfl fun w K2 UB hS => ?_
           obtain ⟨Ks, UU, hS⟩ := hS.nilV 58 qb.cells 8
           obtain ⟨Kt, UV, hS⟩ := hS.nilV 43 qa.cells 10
           refine sA hS rfl fun hS => qs <| wp_ret <| qx ?_
           exact xX (vs := [.agg ⟨[.int .i64 (0 : Int), .int .i64 (0 : Int), .int .u64 (0 : Int), .int .i64 (0 : Int), .slice none ([] : List qb).length (0), .slice none ([] : List qa).length (0)]⟩, .int .i64 Vn]) hS rfl (by exact ⟨uZ 2 ([.int .i64 (0 : Int), .int .i64 (0 : Int), .int .u64 (0 : Int), .int .i64 (0 : Int), .slice none ([] : List qb).length (0), .slice none ([] : List qa).length (0)]) rfl UB rfl rfl rfl Tryd.isAgg27 Tryd.sizeOf27, Zf rfl, trivial⟩) (hret (0 : Int) (0 : Int) (0 : Int) (0 : Int) none (0) ([] : List qb) Ks none (0) ([] : List qa) Kt Vn _ (qC hM) UU UV (hS.st.pick [1, 0] (by kernel_rfl)))
          ·refine wp_skip ?_
           refine qi <| qn <| sM hS rfl fun hS => sM hS rfl fun hS => sO hS (yM rfl Tryd.runUnderlying23 Tryd.runUnderlying3) rfl fun hS => sM hS rfl fun hS => ql hS rfl Tryd.call31 (y8 hG K JN (wr .i64 Vl) JW (hS.st.part 0 [0, 1, 2, 3, 4, 5] (by kernel_rfl)) (qf hM) (fun JY JZ JP Un Vh Vw J5 VF Us w hM VX Uq hst => qk hS.ev hst.appF rfl fun hS => ?_))
           replace hS : Ss _ _ _ H [Un, VF, JT, JU, JV, Vg, Vc, Vi] F _ _ := hS
           refine sM hS rfl fun hS => sO hS (ex rfl rfl) rfl fun hS => sO hS (ex rfl rfl) rfl fun hS => sO hS (ex rfl rfl) rfl fun hS => sA hS rfl fun hS => sA hS rfl fun hS => sA hS rfl fun hS => qs <| wp_seq <| qn <| sM hS rfl fun hS => sB hS rfl fun hS => qs <| qI hS rfl hM (fun Kb hM => ?_) (fun Kb hM => ?_)
           ·refine wp_seq ?_
            refine zI <| sO hS (jW ([.int .i64 (0 : Int), .int .i64 (0 : Int), .int .u64 (0 : Int), .int .i64 (0 : Int), .slice none 0 0, .slice none 0 0]) [(0, 1), (1, 1), (2, 1), (3, 1), (4, 1), (5, 1)] Tryd.zeroValue27 Tryd.runUnderlying27 (by intro w; simp [Tryd.sizeOf23, Tryd.sizeOf24, Tryd.sizeOf25, Tryd.sizeOf3]) rfl rfl) rfl fun hS => sM hS rfl fun hS => jr 2 ([.int .i64 (0 : Int), .int .i64 (0 : Int), .int .u64 (0 : Int), .int .i64 (0 : Int), .slice none 0 0, .slice none 0 0]) ([.int .i64 (0 : Int), .int .i64 (0 : Int), .int .u64 (0 : Int), .int .i64 (0 : Int), .slice none 0 0, .slice none 0 0]) hS rfl rfl J6 rfl rfl Tryd.sizeOf27 (by simp [Value.oneCell']) (Nat.le_of_ble_eq_true rfl) rfl fun w K3 UC hS => ?_
            obtain ⟨Ku, UW, hS⟩ := hS.nilV 58 qb.cells 8
            obtain ⟨Kv, UX, hS⟩ := hS.nilV 43 qa.cells 10
            refine sA hS rfl fun hS => qs <| wp_ret <| qx ?_
            exact xX (vs := [.agg ⟨[.int .i64 (0 : Int), .int .i64 (0 : Int), .int .u64 (0 : Int), .int .i64 (0 : Int), .slice none ([] : List qb).length (0), .slice none ([] : List qa).length (0)]⟩, .int .i64 Us]) hS rfl (by exact ⟨uZ 4 ([.int .i64 (0 : Int), .int .i64 (0 : Int), .int .u64 (0 : Int), .int .i64 (0 : Int), .slice none ([] : List qb).length (0), .slice none ([] : List qa).length (0)]) rfl UC rfl rfl rfl Tryd.isAgg27 Tryd.sizeOf27, Zf rfl, trivial⟩) (hret (0 : Int) (0 : Int) (0 : Int) (0 : Int) none (0) ([] : List qb) Ku none (0) ([] : List qa) Kv Us _ (qC hM) UW UX (hS.st.pick [1, 0] (by kernel_rfl)))
           ·refine wp_skip ?_
            refine qi <| qn <| sM hS rfl fun hS => sM hS rfl fun hS => sO hS (xz rfl Tryd.runUnderlying25) rfl fun hS => sB hS rfl fun hS => ?_
            obtain ⟨V8, hM⟩ := qL hM
            refine sO hS (vS rfl rfl Tryd.runUnderlying25 Tryd.sizeOf43 (VX.rd (i := 0) rfl) (fun _ => rfl) rfl V8) rfl fun hS => sO hS (uQ rfl (VX.rd (i := 0) rfl) (fun _ => rfl) V8 Tryd.isAgg43 Tryd.sizeOf43 rfl) rfl fun hS => jY ([qr ([] : List UInt8), .int .i64 (0 : Int), .int .u64 (0 : Int), .int .u64 (0 : Int), qr ([] : List UInt8), .int .i64 (0 : Int), .int .i64 (0 : Int), .int .i64 (0 : Int), .int .u64 (0 : Int), .int .u64 (0 : Int)]) hS Tryd.zeroValue43 rfl rfl fun w Vv K4 UD hS => jr 0 ([qr ((rd JP (qM ((JP.length : Int) - (1 : Int)))).Name_), .int .i64 ((rd JP (qM ((JP.length : Int) - (1 : Int)))).Type_), .int .u64 ((rd JP (qM ((JP.length : Int) - (1 : Int)))).Flags_), .int .u64 ((rd JP (qM ((JP.length : Int) - (1 : Int)))).Addr_), qr ((rd JP (qM ((JP.length : Int) - (1 : Int)))).Data_), .int .i64 ((rd JP (qM ((JP.length : Int) - (1 : Int)))).Size_), .int .i64 ((rd JP (qM ((JP.length : Int) - (1 : Int)))).Link_), .int .i64 ((rd JP (qM ((JP.length : Int) - (1 : Int)))).Info_), .int .u64 ((rd JP (qM ((JP.length : Int) - (1 : Int)))).Align_), .int .u64 ((rd JP (qM ((JP.length : Int) - (1 : Int)))).Each_)]) ([qr ((rd JP (qM ((JP.length : Int) - (1 : Int)))).Name_), .int .i64 ((rd JP (qM ((JP.length : Int) - (1 : Int)))).Type_), .int .u64 ((rd JP (qM ((JP.length : Int) - (1 : Int)))).Flags_), .int .u64 ((rd JP (qM ((JP.length : Int) - (1 : Int)))).Addr_), qr ((rd JP (qM ((JP.length : Int) - (1 : Int)))).Data_), .int .i64 ((rd JP (qM ((JP.length : Int) - (1 : Int)))).Size_), .int .i64 ((rd JP (qM ((JP.length : Int) - (1 : Int)))).Link_), .int .i64 ((rd JP (qM ((JP.length : Int) - (1 : Int)))).Info_), .int .u64 ((rd JP (qM ((JP.length : Int) - (1 : Int)))).Align_), .int .u64 ((rd JP (qM ((JP.length : Int) - (1 : Int)))).Each_)]) hS rfl rfl UD rfl rfl Tryd.sizeOf43 (by simp [Value.oneCell']) (Nat.le_of_ble_eq_true rfl) rfl fun w VQ VZ hS => qs <| wp_seq <| qn <| sO hS (qU rfl Tryd.runUnderlying43 rfl Tryd.sizeOf3 rfl) rfl fun hS => sO hS (zD 0 rfl VZ rfl rfl Tryd.isAgg3) rfl fun hS => sB hS rfl fun hS => qs <| qI hS rfl hM (fun Kc hM => ?_) (fun Kc hM => ?_)
            ·refine wp_seq ?_
             refine zI <| sO hS (jW ([.int .i64 (0 : Int), .int .i64 (0 : Int), .int .u64 (0 : Int), .int .i64 (0 : Int), .slice none 0 0, .slice none 0 0]) [(0, 1), (1, 1), (2, 1), (3, 1), (4, 1), (5, 1)] Tryd.zeroValue27 Tryd.runUnderlying27 (by intro w; simp [Tryd.sizeOf23, Tryd.sizeOf24, Tryd.sizeOf25, Tryd.sizeOf3]) rfl rfl) rfl fun hS => jr 3 ([.int .i64 (0 : Int), .int .i64 (0 : Int), .int .u64 (0 : Int), .int .i64 (0 : Int), .slice none 0 0, .slice none 0 0]) ([.int .i64 (0 : Int), .int .i64 (0 : Int), .int .u64 (0 : Int), .int .i64 (0 : Int), .slice none 0 0, .slice none 0 0]) hS rfl rfl J6 rfl rfl Tryd.sizeOf27 (by simp [Value.oneCell']) (Nat.le_of_ble_eq_true rfl) rfl fun w K5 UE hS => ?_
             obtain ⟨Kw, UY, hS⟩ := hS.nilV 58 qb.cells 8
             obtain ⟨Kx, UZ, hS⟩ := hS.nilV 43 qa.cells 10
             refine sA hS rfl fun hS => qs <| wp_ret <| qx ?_
             exact xX (vs := [.agg ⟨[.int .i64 (0 : Int), .int .i64 (0 : Int), .int .u64 (0 : Int), .int .i64 (0 : Int), .slice none ([] : List qb).length (0), .slice none ([] : List qa).length (0)]⟩, .int .i64 (3 : Int)]) hS rfl (by exact ⟨uZ 5 ([.int .i64 (0 : Int), .int .i64 (0 : Int), .int .u64 (0 : Int), .int .i64 (0 : Int), .slice none ([] : List qb).length (0), .slice none ([] : List qa).length (0)]) rfl UE rfl rfl rfl Tryd.isAgg27 Tryd.sizeOf27, Zf rfl, trivial⟩) (hret (0 : Int) (0 : Int) (0 : Int) (0 : Int) none (0) ([] : List qb) Kw none (0) ([] : List qa) Kx (3 : Int) _ (qC hM) UY UZ (hS.st.pick [1, 0] (by kernel_rfl)))
            ·refine wp_skip ?_
             refine qi <| zq (fun a w => ∃ (VE : (List qa)) (VR : qj), Ss 190 [] [(2, qp J4 0), (8, qp Vm 0), (10, .slice JY VE.length JZ)] H [JT, JU, JV, Vg, Vc, Vi, VR] F a w ∧ (zp 43 qa.cells 10 JY VE JZ VR) ∧ (qe.j9 K J0 J1 J2 J3 JO VE).wp kr kp) (fun KW UJ => ?_) ?_
             ·refine wp_seq ?_
              refine zI <| sA hS rfl fun hS => qs <| yp <| zz (fun VS a w => ∃ (JR : (List qa)) (Vo : qj) (JS : Int), Ss 190 [] [(2, qp J4 0), (8, qp Vm 0), (10, .slice JY JR.length JZ), (11, .slice Vh J5.length Vw), (13, qp Vv 0), (14, .int .i64 JS)] H [JT, JU, JV, Vg, Vc, Vi, Vo, VF, VQ] F a w ∧ (zp 43 qa.cells 10 JY JR JZ Vo) ∧ (qe.l6 K J0 J1 J2 J3 JO JP J5 VS JR JS).wp kr kp) K ?_ ?_ ?_
              ·exact ⟨JP, Un, (0 : Int), hS.to [3, 4, 5, 6, 7, 8, 1, 2, 0] (by kernel_rfl) ⟨rfl, rfl, rfl, rfl, rfl, rfl, trivial⟩, VX, hM⟩
              ·intro a w hI; obtain ⟨_, _, _, _, _, hM⟩ := hI; exact zA hM
              ·intro VS a w hI KV UI
               obtain ⟨JR, Vo, JS, hS, VD, hM⟩ := hI
               rw [qe.l6] at hM
               refine wp_seq <| qn <| sM hS rfl fun hS => sM hS rfl fun hS => sO hS (xz rfl Tryd.runUnderlying25) rfl fun hS => sB hS rfl fun hS => qs <| qI hS rfl hM (fun Kd hM => ?_) (fun Kd hM => ?_)
               ·refine wp_skip ?_
                refine qi <| wp_seq <| yp <| wp_seq ?_
                obtain ⟨V9, hM⟩ := qL hM
                refine qR (vals := [some (qp Vv 4), some (qr ((rd JP (qM ((JP.length : Int) - (1 : Int)))).Data_)), some (.slice Vh J5.length Vw), some (.int .i64 JS), some (jK Vh (Int.toNat JS * 1)), some (.int .u64 (rd J5 JS)), none, none, none, none, none, none]) hS xe rfl ?_
                intro l w ho hcl hA hst
                refine yA hA hst ho hcl zU xf 6 [0, 1, 2, 3, 4, 5] rfl rfl rfl rfl rfl (by exact ⟨nQ rfl (by exact qH (qU rfl Tryd.runUnderlying43 rfl Tryd.sizeOf9 rfl) rfl), nQ rfl (by exact qH (zD 8 rfl VZ rfl rfl Tryd.isAgg9) rfl), nM rfl, nM rfl, nQ rfl (by exact qH (vS rfl rfl Tryd.runUnderlying73 Tryd.sizeOf23 (Uq.rd (i := 7) rfl) (fun _ => rfl) rfl V9) rfl), nQ rfl (by exact qH (uP rfl (Uq.rd (i := 7) rfl) (fun _ => rfl) V9 rfl Tryd.isAgg23) rfl), trivial⟩) fun D l a w ho hcl hav hpre hm hE hk hA hst => ?_
                have hS := (Ss.mk hE hst).env2 (e' := [(156, qr ((rd JP (qM ((JP.length : Int) - (1 : Int)))).Data_)), (160, .int .u64 (rd J5 JS))]) ⟨rfl, rfl, trivial⟩
                refine qy rfl <| ql hS rfl Tryd.call32 (jE hG K ((rd JP (qM ((JP.length : Int) - (1 : Int)))).Data_) (rd J5 JS) (hS.st.part 0 [0, 1, 2, 3, 4, 5, 6, 7, 8] (by kernel_rfl)) (qf hM) (fun J9 VC w hM  hst => qk hS.ev hst.appF rfl fun hS => ?_))
                replace hS : Ss _ _ _ H [JT, JU, JV, Vg, Vc, Vi, Vo, VF, VQ] F _ _ := hS
                refine qs ?_
                replace hst := hS.st
                obtain ⟨hcl, hmust, hav2, hA⟩ := dn (vals' := [some (qp Vv 4), some (qr ((rd JP (qM ((JP.length : Int) - (1 : Int)))).Data_)), some (.slice Vh J5.length Vw), some (.int .i64 JS), some (jK Vh (Int.toNat JS * 1)), some (.int .u64 (rd J5 JS)), some (.tuple ⟨[qr J9, .bool VC]⟩), some (.tuple ⟨[qr J9, .bool VC]⟩), some (qr J9), some (.bool VC), some (qr J9), some (.bool VC)]) 6 [(1, 6), (5, 6), (0, 1), (4, 5), (2, 4), (3, 4)] hA hcl hav hm hpre hk rfl rfl rfl rfl rfl rfl rfl
                clear hm hav
                refine xL hA hst ho hcl hmust [7, 8, 9, 10, 11] rfl rfl rfl (by exact ⟨nM rfl, nQ rfl (by exact qH (ex rfl rfl) rfl), nQ rfl (by exact qH (ex rfl rfl) rfl), nA rfl, nA rfl, trivial⟩) fun a w hS => ?_
                replace hS := hS.env2 (e' := [(2, qp J4 0), (8, qp Vm 0), (10, .slice JY JR.length JZ), (11, .slice Vh J5.length Vw), (13, qp Vv 0), (14, .int .i64 JS), (15, qr J9), (16, .bool VC)]) ⟨rfl, rfl, rfl, rfl, rfl, rfl, rfl, rfl, trivial⟩
                refine qi <| wp_seq <| qn <| sM hS rfl fun hS => sO hS (un rfl rfl) rfl fun hS => sM hS rfl fun hS => zR (fun a w => ∃ (Ud : Bool), Ss 190 [] [(2, qp J4 0), (8, qp Vm 0), (10, .slice JY JR.length JZ), (11, .slice Vh J5.length Vw), (13, qp Vv 0), (14, .int .i64 JS), (15, qr J9), (176, .bool Ud)] H [JT, JU, JV, Vg, Vc, Vi, Vo, VF, VQ] F a w ∧ (qe.j8 K (qe.l6 K J0 J1 J2 J3 JO JP J5 VS) JR JS J9 Ud).wp kr kp) 10 (fun KU V5 => ?_) ?_
                ·refine um (b := (!VC)) hM (fun Vt hM => ?_) (fun Vt hM => ?_)
                 ·replace hS := hS.re 165 (v := .bool true) rfl (congrArg Value.bool Vt)
                  replace hS := hS.re 166 (v := .bool true) rfl (congrArg Value.bool Vt)
                  refine yv 9 hS rfl fun a w hS => sO hS (pk rfl rfl rfl) rfl fun hS => qN <| qi ?_
                  exact V5 _ _ ⟨true, hS.to [0, 1, 2, 3, 4, 5, 6, 7, 8] (by kernel_rfl) ⟨rfl, rfl, rfl, rfl, rfl, rfl, rfl, rfl, trivial⟩, hM⟩
                 ·replace hS := hS.re 165 (v := .bool false) rfl (congrArg Value.bool Vt)
                  replace hS := hS.re 166 (v := .bool false) rfl (congrArg Value.bool Vt)
                  refine qw hS rfl rfl rfl rfl (mv rfl) rfl fun a w hS => qw hS rfl rfl rfl rfl (mv rfl) rfl fun a w hS => qw hS rfl rfl rfl rfl (xz rfl Tryd.runUnderlying25) rfl fun a w hS => qw hS rfl rfl rfl rfl (x6 rfl rfl rfl) rfl fun a w hS => qw hS rfl rfl rfl rfl (x6 rfl rfl rfl) rfl fun a w hS => qw hS rfl rfl rfl rfl (mv rfl) rfl fun a w hS => zR (fun a w => ∃ (VU : Bool) (VV : Bool), Ss 190 [] [(2, qp J4 0), (8, qp Vm 0), (10, .slice JY JR.length JZ), (11, .slice Vh J5.length Vw), (13, qp Vv 0), (14, .int .i64 JS), (15, qr J9), (166, .bool false), (167, .int .i64 JS), (168, .slice JY JR.length JZ), (169, .int .i64 (JR.length : Int)), (170, .int .i64 (qM ((JR.length : Int) - (1 : Int)))), (171, .bool VU), (172, .bool VU), (175, .bool VV)] H [JT, JU, JV, Vg, Vc, Vi, Vo, VF, VQ] F a w ∧ (qe.j7 K (qe.l6 K J0 J1 J2 J3 JO JP J5 VS) JR JS J9 VU VV).wp kr kp) 3 (fun KT V4 => ?_) ?_
                  ·refine um (b := (JS == (qM ((JR.length : Int) - (1 : Int))))) hM (fun Vu hM => ?_) (fun Vu hM => ?_)
                   ·replace hS := hS.re 171 (v := .bool true) rfl (congrArg Value.bool Vu)
                    replace hS := hS.re 172 (v := .bool true) rfl (congrArg Value.bool Vu)
                    refine qw hS rfl rfl rfl rfl (mv rfl) rfl fun a w hS => qw hS rfl rfl rfl rfl (vW rfl rfl rfl) rfl fun a w hS => qw hS rfl rfl rfl rfl (pk rfl rfl rfl) rfl fun a w hS => qN <| qi ?_
                    exact V4 _ _ ⟨true, (!(J9 == ([46, 115, 104, 115, 116, 114, 116, 97, 98] : List UInt8))), hS.to [0, 1, 2, 3, 4, 5, 6, 7, 8] (by kernel_rfl) ⟨rfl, rfl, rfl, rfl, rfl, rfl, rfl, rfl, rfl, rfl, rfl, rfl, rfl, rfl, rfl, trivial⟩, hM⟩
                   ·replace hS := hS.re 171 (v := .bool false) rfl (congrArg Value.bool Vu)
                    replace hS := hS.re 172 (v := .bool false) rfl (congrArg Value.bool Vu)
                    refine yv 2 hS rfl fun a w hS => qw hS rfl rfl rfl rfl (pk rfl rfl rfl) rfl fun a w hS => qN <| qi ?_
                    exact V4 _ _ ⟨false, false, hS.to [0, 1, 2, 3, 4, 5, 6, 7, 8] (by kernel_rfl) ⟨rfl, rfl, rfl, rfl, rfl, rfl, rfl, rfl, rfl, rfl, rfl, rfl, rfl, rfl, rfl, trivial⟩, hM⟩
                  ·intro a w hI
                   obtain ⟨VU, VV, hS, hM⟩ := hI
                   rw [qe.j7] at hM
                   refine sO hS (pk rfl rfl rfl) rfl fun hS => qN <| qi ?_
                   exact V5 _ _ ⟨VV, hS.to [0, 1, 2, 3, 4, 5, 6, 7, 8] (by kernel_rfl) ⟨rfl, rfl, rfl, rfl, rfl, rfl, rfl, rfl, trivial⟩, hM⟩
                ·intro a w hI
                 obtain ⟨Ud, hS, hM⟩ := hI
                 rw [qe.j8] at hM
                 refine qs <| qI hS rfl hM (fun Ke hM => ?_) (fun Ke hM => ?_)
                 ·refine wp_seq ?_
                  refine zI <| sO hS (jW ([.int .i64 (0 : Int), .int .i64 (0 : Int), .int .u64 (0 : Int), .int .i64 (0 : Int), .slice none 0 0, .slice none 0 0]) [(0, 1), (1, 1), (2, 1), (3, 1), (4, 1), (5, 1)] Tryd.zeroValue27 Tryd.runUnderlying27 (by intro w; simp [Tryd.sizeOf23, Tryd.sizeOf24, Tryd.sizeOf25, Tryd.sizeOf3]) rfl rfl) rfl fun hS => jr 0 ([.int .i64 (0 : Int), .int .i64 (0 : Int), .int .u64 (0 : Int), .int .i64 (0 : Int), .slice none 0 0, .slice none 0 0]) ([.int .i64 (0 : Int), .int .i64 (0 : Int), .int .u64 (0 : Int), .int .i64 (0 : Int), .slice none 0 0, .slice none 0 0]) hS rfl rfl J6 rfl rfl Tryd.sizeOf27 (by simp [Value.oneCell']) (Nat.le_of_ble_eq_true rfl) rfl fun w K6 UF hS => ?_
                  obtain ⟨Ky, U0, hS⟩ := hS.nilV 58 qb.cells 8
                  obtain ⟨Kz, U1, hS⟩ := hS.nilV 43 qa.cells 10
                  refine sA hS rfl fun hS => qs <| wp_ret <| qx (zK (qx (qx (zK (qx ?_)))))
                  exact xX (vs := [.agg ⟨[.int .i64 (0 : Int), .int .i64 (0 : Int), .int .u64 (0 : Int), .int .i64 (0 : Int), .slice none ([] : List qb).length (0), .slice none ([] : List qa).length (0)]⟩, .int .i64 (3 : Int)]) hS rfl (by exact ⟨uZ 2 ([.int .i64 (0 : Int), .int .i64 (0 : Int), .int .u64 (0 : Int), .int .i64 (0 : Int), .slice none ([] : List qb).length (0), .slice none ([] : List qa).length (0)]) rfl UF rfl rfl rfl Tryd.isAgg27 Tryd.sizeOf27, Zf rfl, trivial⟩) (hret (0 : Int) (0 : Int) (0 : Int) (0 : Int) none (0) ([] : List qb) Ky none (0) ([] : List qa) Kz (3 : Int) _ (qC hM) U0 U1 (hS.st.pick [1, 0] (by kernel_rfl)))
                 ·refine wp_skip ?_
                  refine qi <| zI <| sM hS rfl fun hS => sM hS rfl fun hS => sM hS rfl fun hS => ?_
                  obtain ⟨VN, hM⟩ := qL hM
                  refine sO hS (vS rfl rfl Tryd.runUnderlying25 Tryd.sizeOf43 (VD.rd (i := 6) rfl) (fun _ => rfl) rfl VN) rfl fun hS => sO hS (Zs (sz := 10) rfl (VD.rd (i := 6) rfl) (fun _ => rfl) rfl VN Tryd.runUnderlying43 rfl Tryd.sizeOf9 rfl) rfl fun hS => Ja (i := JS) (sz := 10) 6 0 ((qa.mk J9 ((rd JR JS).Type_) ((rd JR JS).Flags_) ((rd JR JS).Addr_) ((rd JR JS).Data_) ((rd JR JS).Size_) ((rd JR JS).Link_) ((rd JR JS).Info_) ((rd JR JS).Align_) ((rd JR JS).Each_))) hS rfl rfl VD rfl Tryd.sizeOf9 (ZH J9) (fun _ => rfl) VN rfl rfl fun VO w KA hz Ua U2 hS => ?_
                  have hM := qO hz hM; clear hz
                  replace hS := hS.re 10 (u := .slice JY JR.length JZ) (v := .slice JY VO.length JZ) rfl (by rw [Ua])
                  replace hS := hS.re 178 (u := .slice JY JR.length JZ) (v := .slice JY VO.length JZ) rfl (by rw [Ua])
                  refine qN <| xr (qi ?_)
                  refine zI <| sM hS rfl fun hS => sB hS rfl fun hS => zO (v := Value.int .i64) (x0 := (qM (JS + (1 : Int)))) hS (xK rfl) rfl fun KC a w hz hS => ?_
                  have hM := qO hz hM; clear hz
                  refine qN <| qi ?_
                  exact UI _ _ ⟨VO, KA, KC, hS.to [0, 1, 2, 3, 4, 5, 6, 7, 8] (by kernel_rfl) ⟨rfl, rfl, rfl, rfl, rfl, rfl, trivial⟩, U2, hM⟩
               ·refine wp_exit ?_
                refine qK (qK (zi (qi ?_)))
                exact UJ _ _ ⟨JR, Vo, hS.to [0, 1, 2, 3, 4, 5, 6] (by kernel_rfl) ⟨rfl, rfl, rfl, trivial⟩, VD, hM⟩
             ·intro a w hI
              obtain ⟨VE, VR, hS, U3, hM⟩ := hI
              rw [qe.j9] at hM
              refine qn <| sM hS rfl fun hS => sM hS rfl fun hS => sO hS (xz rfl Tryd.runUnderlying25) rfl fun hS => sB hS rfl fun hS => ?_
              obtain ⟨Kg, hM⟩ := qL hM
              refine Yz hS rfl U3 Tryd.runUnderlying25 Tryd.sizeOf43 (QQ rfl) (fun _ => rfl) rfl Kg rfl fun Vd w hz U4 hS => ?_
              have hM := qO hz hM; clear hz
              refine sO hS (qU rfl Tryd.runUnderlying27 rfl Tryd.sizeOf25 rfl) rfl fun hS => y3 3 ([.int .i64 (wr .i64 J0), .int .i64 (wr .i64 J1), .int .u64 J2, .int .i64 (wr .i64 J3), .slice Va JO.length Vb, .slice JY Vd.length JZ]) hS rfl rfl UA rfl rfl rfl rfl Tryd.sizeOf25 fun w K7 UG hS => qs <| qn <| sO hS (xR 3 rfl UG rfl ([.int .i64 (wr .i64 J0), .int .i64 (wr .i64 J1), .int .u64 J2, .int .i64 (wr .i64 J3), .slice Va JO.length Vb, .slice JY Vd.length JZ]) rfl rfl Tryd.isAgg27 Tryd.sizeOf27) rfl fun hS => jr 0 ([.int .i64 (wr .i64 J0), .int .i64 (wr .i64 J1), .int .u64 J2, .int .i64 (wr .i64 J3), .slice Va JO.length Vb, .slice JY Vd.length JZ]) ([.int .i64 (wr .i64 J0), .int .i64 (wr .i64 J1), .int .u64 J2, .int .i64 (wr .i64 J3), .slice Va JO.length Vb, .slice JY Vd.length JZ]) hS rfl rfl J6 rfl rfl Tryd.sizeOf27 (by simp [Value.oneCell']) (Nat.le_of_ble_eq_true rfl) rfl fun w K8 UH hS => sA hS rfl fun hS => qs <| wp_ret ?_
              exact xX (vs := [.agg ⟨[.int .i64 (wr .i64 J0), .int .i64 (wr .i64 J1), .int .u64 J2, .int .i64 (wr .i64 J3), .slice Va JO.length Vb, .slice JY Vd.length JZ]⟩, .int .i64 (0 : Int)]) hS rfl (by exact ⟨uZ 0 ([.int .i64 (wr .i64 J0), .int .i64 (wr .i64 J1), .int .u64 J2, .int .i64 (wr .i64 J3), .slice Va JO.length Vb, .slice JY Vd.length JZ]) rfl UH rfl rfl rfl Tryd.isAgg27 Tryd.sizeOf27, Zf rfl, trivial⟩) (hret (wr .i64 J0) (wr .i64 J1) J2 (wr .i64 J3) Va Vb JO Vc JY JZ Vd VR (0 : Int) _ (qC hM) UT U4 (hS.st.pick [4, 6] (by kernel_rfl)))
theorem y7 {H : zB} {F : List qj} {w : World} {R : Ending → World → Prop} {kr : Bool → Prop} {kp : Value → Prop} (hG : Gl H) (K : Nat) (s1 : List UInt8)
    (hS : St w H [] F) (hm : (qB.m K s1).wp kr kp)
    (hret : ∀ (Vo : Bool) (w : World), kr Vo → St w H [] F → R (.returned (.bool Vo)) w) :
    Calls Tryd.prog 3 ⟨[qr s1]⟩ w R := by
 refine enter Tryd.func3 rfl Tryd.ntmps3 rfl hS fun a w hS => ?_
 have hM := hm; clear hm
 rw [qB.m] at hM
 refine qn <| sA hS rfl fun hS => qs <| wp_seq <| qn <| sM hS rfl fun hS => sO hS (yi rfl Tryd.runUnderlying9) rfl fun hS => sB hS rfl fun hS => qs <| qI hS rfl hM (fun hb2 hM => ?_) (fun hb2 hM => ?_)
 ·refine wp_seq ?_
  refine zI <| ql hS rfl Tryd.call9 (yP hG K  (hS.st.part 0 [] (by kernel_rfl)) (qf hM) (fun Vw w hM  hst => qk hS.ev hst.appF rfl fun hS => ?_))
  replace hS : Ss _ _ _ H [] F _ _ := hS
  refine sA hS rfl fun hS => qs <| wp_ret <| qx ?_
  exact qT (rs := [2]) hS rfl rfl (hret Vw _ (qC hM) (hS.st.pick [] (by kernel_rfl)))
 ·refine wp_skip ?_
  refine qi <| qn <| sM hS rfl fun hS => ql hS rfl Tryd.call10 (jN hG K s1 (hS.st.part 0 [] (by kernel_rfl)) (qf hM) (fun JX JR JT JV J1 J5 JP Vb J2 J6 JN Vc Vx w hM Vk Vl hst => qk hS.ev hst.appF rfl fun hS => ?_))
  replace hS : Ss _ _ _ H [Vb, Vc] F _ _ := hS
  refine sM hS rfl fun hS => sO hS (ex rfl rfl) rfl fun hS => sO hS (ex rfl rfl) rfl fun hS => jY ([.int .i64 (0 : Int), .int .i64 (0 : Int), .int .u64 (0 : Int), .int .i64 (0 : Int), .slice none 0 0, .slice none 0 0]) hS Tryd.zeroValue27 rfl rfl fun w VH VJ Vp hS => ?_
  obtain ⟨Vf, VB, hS⟩ := hS.nilV 58 qb.cells 8
  obtain ⟨Vg, VC, hS⟩ := hS.nilV 43 qa.cells 10
  refine jr 2 ([.int .i64 JX, .int .i64 JR, .int .u64 JT, .int .i64 JV, .slice J1 JP.length J5, .slice J2 JN.length J6]) ([.int .i64 JX, .int .i64 JR, .int .u64 JT, .int .i64 JV, .slice J1 JP.length J5, .slice J2 JN.length J6]) hS rfl rfl Vp rfl rfl Tryd.sizeOf27 (by simp [Value.oneCell']) (Nat.le_of_ble_eq_true rfl) rfl fun w Vh Vq hS => sA hS rfl fun hS => qs <| qn <| sM hS rfl fun hS => ql hS rfl Tryd.call11 (jD hG K s1 (hS.st.part 0 [0, 1, 2, 3, 4] (by kernel_rfl)) (qf hM) (fun JY JS JU JW J3 J7 JQ Vi J4 J8 JO Vj Vy w hM Vm Vn hst => qk hS.ev hst.appF rfl fun hS => ?_))
  replace hS : Ss _ _ _ H [Vi, Vj, Vg, Vf, Vh, Vb, Vc] F _ _ := hS
  refine sM hS rfl fun hS => sO hS (ex rfl rfl) rfl fun hS => sO hS (ex rfl rfl) rfl fun hS => jY ([.int .i64 (0 : Int), .int .i64 (0 : Int), .int .u64 (0 : Int), .int .i64 (0 : Int), .slice none 0 0, .slice none 0 0]) hS Tryd.zeroValue27 rfl rfl fun w VI VK Vr hS => ?_
  obtain ⟨Vt, VD, hS⟩ := hS.nilV 58 qb.cells 8
  obtain ⟨Vu, VE, hS⟩ := hS.nilV 43 qa.cells 10
  refine jr 2 ([.int .i64 JY, .int .i64 JS, .int .u64 JU, .int .i64 JW, .slice J3 JQ.length J7, .slice J4 JO.length J8]) ([.int .i64 JY, .int .i64 JS, .int .u64 JU, .int .i64 JW, .slice J3 JQ.length J7, .slice J4 JO.length J8]) hS rfl rfl Vr rfl rfl Tryd.sizeOf27 (by simp [Value.oneCell']) (Nat.le_of_ble_eq_true rfl) rfl fun w Vv Vs hS => sA hS rfl fun hS => qs <| qn <| sM hS rfl fun hS => sM hS rfl fun hS => sB hS rfl fun hS => sM hS rfl fun hS => zR (fun a w => ∃ (J9 : Bool), Ss 32 [] [(28, .bool J9)] H [] F a w ∧ (qB.j1 K J9).wp kr kp) 4 (fun VF Vd => ?_) ?_
  ·refine um (b := (Vx == Vy)) hM (fun JZ hM => ?_) (fun JZ hM => ?_)
   ·replace hS := hS.re 23 (v := .bool true) rfl (congrArg Value.bool JZ)
    replace hS := hS.re 24 (v := .bool true) rfl (congrArg Value.bool JZ)
    refine qw hS rfl rfl rfl rfl (xR 7 rfl Vq rfl ([.int .i64 JX, .int .i64 JR, .int .u64 JT, .int .i64 JV, .slice J1 JP.length J5, .slice J2 JN.length J6]) rfl rfl Tryd.isAgg27 Tryd.sizeOf27) rfl fun a w hS => qw hS rfl rfl rfl rfl (xR 2 rfl Vs rfl ([.int .i64 JY, .int .i64 JS, .int .u64 JU, .int .i64 JW, .slice J3 JQ.length J7, .slice J4 JO.length J8]) rfl rfl Tryd.isAgg27 Tryd.sizeOf27) rfl fun a w hS => z5 hS rfl rfl rfl rfl <| ql hS rfl Tryd.call12 (yQ hG K (qJ.mk JX JR JT JV JP JN) (qJ.mk JY JS JU JW JQ JO) J1 J5 J2 J6 J3 J7 J4 J8 (Vk.rdF (i := 8) rfl) (Vk.cap (fun _ => rfl) rfl) (Vl.rdF (i := 9) rfl) (Vl.cap (fun _ => rfl) rfl) (Vm.rdF (i := 3) rfl) (Vm.cap (fun _ => rfl) rfl) (Vn.rdF (i := 4) rfl) (Vn.cap (fun _ => rfl) rfl) (hS.st.part 0 [0, 1, 2, 3, 4, 5, 6, 7, 8, 9] (by kernel_rfl)) (qf hM) (fun Vz w hM  hst => qk hS.ev hst.appF rfl fun hS => ?_))
    replace hS : Ss _ _ _ H [Vu, Vt, Vv, Vi, Vj, Vg, Vf, Vh, Vb, Vc] F _ _ := hS
    refine sO hS (pk rfl rfl rfl) rfl fun hS => qN <| qi ?_
    exact Vd _ _ ⟨Vz, hS.to [] (by kernel_rfl) ⟨rfl, trivial⟩, hM⟩
   ·replace hS := hS.re 23 (v := .bool false) rfl (congrArg Value.bool JZ)
    replace hS := hS.re 24 (v := .bool false) rfl (congrArg Value.bool JZ)
    refine yv 3 hS rfl fun a w hS => sO hS (pk rfl rfl rfl) rfl fun hS => qN <| qi ?_
    exact Vd _ _ ⟨false, hS.to [] (by kernel_rfl) ⟨rfl, trivial⟩, hM⟩
  ·intro a w hI
   obtain ⟨J9, hS, hM⟩ := hI
   rw [qB.j1] at hM
   refine sM hS rfl fun hS => zR (fun a w => ∃ (Va : Bool), Ss 32 [] [(31, .bool Va)] H [] F a w ∧ (qB.j2 K Va).wp kr kp) 2 (fun VG Ve => ?_) ?_
   ·refine um (b := J9) hM (fun J0 hM => ?_) (fun J0 hM => ?_)
    ·replace hS := hS.re 28 (v := .bool true) rfl (congrArg Value.bool J0)
     replace hS := hS.re 29 (v := .bool true) rfl (congrArg Value.bool J0)
     refine z5 hS rfl rfl rfl rfl <| ql hS rfl Tryd.call9 (yP hG K  (hS.st.part 0 [] (by kernel_rfl)) (qf hM) (fun VA w hM  hst => qk hS.ev hst.appF rfl fun hS => ?_))
     replace hS : Ss _ _ _ H [] F _ _ := hS
     refine sO hS (pk rfl rfl rfl) rfl fun hS => qN <| qi ?_
     exact Ve _ _ ⟨VA, hS.to [] (by kernel_rfl) ⟨rfl, trivial⟩, hM⟩
    ·replace hS := hS.re 28 (v := .bool false) rfl (congrArg Value.bool J0)
     replace hS := hS.re 29 (v := .bool false) rfl (congrArg Value.bool J0)
     refine yv 1 hS rfl fun a w hS => sO hS (pk rfl rfl rfl) rfl fun hS => qN <| qi ?_
     exact Ve _ _ ⟨false, hS.to [] (by kernel_rfl) ⟨rfl, trivial⟩, hM⟩
   ·intro a w hI
    obtain ⟨Va, hS, hM⟩ := hI
    rw [qB.j2] at hM
    refine sA hS rfl fun hS => qs <| wp_ret ?_
    exact qT (rs := [2]) hS rfl rfl (hret Va _ (qC hM) (hS.st.pick [] (by kernel_rfl)))
end Go.TrydS

