/- Printed by a program of mine: each Go function answers what its model answers; conditions: what each theorem asks of memory. -/
import Derived.Test.YtjgcmokfinicnaaDoorMepppn
import Derived.Test.YtjgcmokfinicnaaDoorChecked
set_option linter.unusedVariables false
set_option linter.unusedSimpArgs false
set_option maxRecDepth 100000
namespace Go.TrydS
open Go Go.Sl Go.Mo Go.Proofs
attribute [local irreducible] qR.wp
theorem xp : Tryd.prog.follows .mixedOrders = true := by kernel_rfl
def _root_.Go.Mo.qr.cells (x : qr) : List Value := [.int .u8 x.Lit_, .int .i64 x.Len_, .int .i64 x.Dist_]
def _root_.Go.Mo.q8.cells (x : q8) : List Value := [.int .i64 x.at_]
def _root_.Go.Mo.xT.cells (x : xT) : List Value := [.int .i64 x.symbol_, .int .i64 x.bits_, .int .u32 x.more_]
def _root_.Go.Mo.ql.cells (x : ql) : List Value := [.int .i64 x.symbol_, .int .i64 x.more_, .int .i64 x.bits_]
def _root_.Go.Mo.qm.cells (x : qm) : List Value := [yc x.S_, .int .i64 x.At_]
theorem X.el3 : El Tryd.prog 3 1 8 := ⟨_, _, Tryd.typeInfo3, rfl, rfl, rfl, rfl⟩
theorem X.el5 : El Tryd.prog 5 1 1 := ⟨_, _, Tryd.typeInfo5, rfl, rfl, rfl, rfl⟩
theorem X.el32 : El Tryd.prog 32 3 24 := ⟨_, _, Tryd.typeInfo32, rfl, rfl, rfl, rfl⟩
theorem X.el45 : El Tryd.prog 45 1 24 := ⟨_, _, Tryd.typeInfo45, rfl, rfl, rfl, rfl⟩
theorem X.el75 : El Tryd.prog 75 3 24 := ⟨_, _, Tryd.typeInfo75, rfl, rfl, rfl, rfl⟩
theorem X.el110 : El Tryd.prog 110 1 24 := ⟨_, _, Tryd.typeInfo110, rfl, rfl, rfl, rfl⟩
theorem X.el112 : El Tryd.prog 112 2 32 := ⟨_, _, Tryd.typeInfo112, rfl, rfl, rfl, rfl⟩
theorem xF : ∀ x, ∀ u ∈ (ci .i64) x, u.oneCell' = true := fun x u hu => by cases hu with | head => rfl | tail _ h => cases h
theorem uy : ∀ x, ∀ u ∈ (ci .u8) x, u.oneCell' = true := fun x u hu => by cases hu with | head => rfl | tail _ h => cases h
theorem KR : ∀ x, ∀ u ∈ qr.cells x, u.oneCell' = true := by
  intro x u hu
  simp only [qr.cells, List.mem_cons, List.not_mem_nil, or_false] at hu
  rcases hu with rfl | rfl | rfl <;> rfl
theorem ZS : ∀ x, ∀ u ∈ ql.cells x, u.oneCell' = true := by
  intro x u hu
  simp only [ql.cells, List.mem_cons, List.not_mem_nil, or_false] at hu
  rcases hu with rfl | rfl | rfl <;> rfl
structure Gl (H : xR) : Prop where
  g0 : ∃ T fr, H 0 = some (.cells ⟨tab_deflate_order.flatMap (ci .i64)⟩ T fr)
theorem Yz {H : xR} {F : List qq} {w : World} {R : Ending → World → Prop} {kr : Bool → Prop} {kp : Value → Prop} (hG : Gl H) (K : Nat) (Gu : qr)
    (hS : St w H [] F) (hm : (vn.m K Gu).wp kr kp)
    (hret : ∀ (Gx : Bool) (w : World), kr Gx → St w H [] F → R (.returned (.bool Gx)) w) :
    Calls Tryd.prog 74 ⟨[.agg ⟨[.int .u8 Gu.Lit_, .int .i64 Gu.Len_, .int .i64 Gu.Dist_]⟩]⟩ w R := by
 refine enter Tryd.func74 rfl Tryd.ntmps74 rfl hS fun a w hS => ?_
 have hM := hm; clear hm
 rw [vn.m] at hM
 refine qp <| bx ([.int .u8 Gu.Lit_, .int .i64 Gu.Len_, .int .i64 Gu.Dist_]) hS rfl rfl rfl fun w GA GB Gv hS => sA hS rfl fun hS => qF <| wp_seq <| qp <| sO hS (xu rfl Tryd.runUnderlying32 rfl Tryd.sizeOf3 rfl) rfl fun hS => sO hS (xW 0 rfl Gv rfl rfl Tryd.isAgg3) rfl fun hS => sB hS rfl fun hS => qF <| qv hS rfl hM (fun Gw hM => ?_) (fun Gw hM => ?_)
 ·refine wp_seq ?_
  refine zB <| sO hS (xu rfl Tryd.runUnderlying32 rfl Tryd.sizeOf3 rfl) rfl fun hS => sO hS (xW 0 rfl Gv rfl rfl Tryd.isAgg3) rfl fun hS => sB hS rfl fun hS => zz (v := Value.bool) (x0 := (Gu.Len_ == (0 : Int))) hS (xj rfl) rfl fun Gy a w hz hS => ?_
  have hM := qC hz hM; clear hz
  refine qF <| wp_ret <| qz ?_
  exact zm (rs := [2]) hS rfl rfl (hret Gy _ (qV hM) (hS.st.pick [] (by kernel_rfl)))
 ·refine wp_skip ?_
  refine qd <| qp <| sO hS (xu rfl Tryd.runUnderlying32 rfl Tryd.sizeOf3 rfl) rfl fun hS => sO hS (xW 0 rfl Gv rfl rfl Tryd.isAgg3) rfl fun hS => sB hS rfl fun hS => sM hS rfl fun hS => yo 3 true 12 (b := (decide (Gu.Dist_ > (0 : Int)))) (r := (decide (Gu.Dist_ ≤ (32768 : Int)))) hS rfl rfl rfl rfl rfl rfl rfl (fun hb a w hS K hK => ?_) rfl fun a w hS => ?_
  ·refine zL hS rfl rfl rfl hb (xu rfl Tryd.runUnderlying32 rfl Tryd.sizeOf3 rfl) rfl fun a w hS => ?_
   refine zL hS rfl rfl rfl hb (xW 0 rfl Gv rfl rfl Tryd.isAgg3) rfl fun a w hS => zL hS rfl rfl rfl hb (yU rfl rfl rfl) rfl fun a w hS => ?_
   exact zc (hK _ _ (hS.up 3 rfl rfl))
  refine sM hS rfl fun hS => yo 3 true 17 (b := ((decide (Gu.Dist_ > (0 : Int))) && (decide (Gu.Dist_ ≤ (32768 : Int))))) (r := (decide (Gu.Len_ ≥ (3 : Int)))) hS rfl rfl rfl rfl rfl rfl rfl (fun hb a w hS K hK => ?_) rfl fun a w hS => ?_
  ·refine zL hS rfl rfl rfl hb (xu rfl Tryd.runUnderlying32 rfl Tryd.sizeOf3 rfl) rfl fun a w hS => ?_
   refine zL hS rfl rfl rfl hb (xW 0 rfl Gv rfl rfl Tryd.isAgg3) rfl fun a w hS => zL hS rfl rfl rfl hb (yU rfl rfl rfl) rfl fun a w hS => ?_
   exact zc (hK _ _ (hS.up 3 rfl rfl))
  refine sM hS rfl fun hS => yo 3 true 22 (b := (((decide (Gu.Dist_ > (0 : Int))) && (decide (Gu.Dist_ ≤ (32768 : Int)))) && (decide (Gu.Len_ ≥ (3 : Int))))) (r := (decide (Gu.Len_ ≤ (258 : Int)))) hS rfl rfl rfl rfl rfl rfl rfl (fun hb a w hS K hK => ?_) rfl fun a w hS => ?_
  ·refine zL hS rfl rfl rfl hb (xu rfl Tryd.runUnderlying32 rfl Tryd.sizeOf3 rfl) rfl fun a w hS => ?_
   refine zL hS rfl rfl rfl hb (xW 0 rfl Gv rfl rfl Tryd.isAgg3) rfl fun a w hS => zL hS rfl rfl rfl hb (yU rfl rfl rfl) rfl fun a w hS => ?_
   exact zc (hK _ _ (hS.up 3 rfl rfl))
  refine sM hS rfl fun hS => yo 3 true 27 (b := ((((decide (Gu.Dist_ > (0 : Int))) && (decide (Gu.Dist_ ≤ (32768 : Int)))) && (decide (Gu.Len_ ≥ (3 : Int)))) && (decide (Gu.Len_ ≤ (258 : Int))))) (r := (Gu.Lit_ == (0 : Int))) hS rfl rfl rfl rfl rfl rfl rfl (fun hb a w hS K hK => ?_) rfl fun a w hS => ?_
  ·refine zL hS rfl rfl rfl hb (xu rfl Tryd.runUnderlying32 rfl Tryd.sizeOf5 rfl) rfl fun a w hS => ?_
   refine zL hS rfl rfl rfl hb (xW 0 rfl Gv rfl rfl Tryd.isAgg5) rfl fun a w hS => zL hS rfl rfl rfl hb (yU rfl rfl rfl) rfl fun a w hS => ?_
   exact zc (hK _ _ (hS.up 3 rfl rfl))
  refine zz (v := Value.bool) (x0 := (((((decide (Gu.Dist_ > (0 : Int))) && (decide (Gu.Dist_ ≤ (32768 : Int)))) && (decide (Gu.Len_ ≥ (3 : Int)))) && (decide (Gu.Len_ ≤ (258 : Int)))) && (Gu.Lit_ == (0 : Int)))) hS (xj rfl) rfl fun Gz a w hz hS => ?_
  have hM := qC hz hM; clear hz
  refine qF <| wp_ret ?_
  exact zm (rs := [2]) hS rfl rfl (hret Gz _ (qV hM) (hS.st.pick [] (by kernel_rfl)))
theorem uu {H : xR} {F : List qq} {w : World} {R : Ending → World → Prop} {kr : Int → Prop} {kp : Value → Prop} (hG : Gl H) (K : Nat) (Gx : Int) (Gu : Int)
    (hS : St w H [] F) (hm : (ya.m K Gx Gu).wp kr kp)
    (hret : ∀ (GD : Int) (w : World), kr GD → St w H [] F → R (.returned (.int .i64 GD)) w) :
    Calls Tryd.prog 76 ⟨[.int .i64 Gx, .int .i64 Gu]⟩ w R := by
 refine enter Tryd.func76 rfl Tryd.ntmps76 rfl hS fun a w hS => ?_
 have hM := hm; clear hm
 rw [ya.m] at hM
 refine qp <| sA hS rfl fun hS => qF <| qp <| sA hS rfl fun hS => qF <| wp_seq <| xw <| zk (fun GE a w => ∃ (Gw : Int) (Gv : Int), Ss 15 [] [(0, .int .i64 Gw), (1, .int .i64 Gu), (5, .int .i64 Gv)] H [] F a w ∧ (ya.l1 K Gu GE Gw Gv).wp kr kp) K ?_ ?_ ?_
 ·exact ⟨Gx, (0 : Int), hS.to [] (by kernel_rfl) ⟨rfl, rfl, rfl, trivial⟩, hM⟩
 ·intro a w hI; obtain ⟨_, _, _, hM⟩ := hI; exact zj hM
 ·intro GE a w hI GF Gy
  obtain ⟨Gw, Gv, hS, hM⟩ := hI
  rw [ya.l1] at hM
  refine wp_seq <| qp <| sM hS rfl fun hS => sM hS rfl fun hS => ?_
  obtain ⟨Gz, hM⟩ := qH hM
  refine sO hS (shl rfl rfl Gz) rfl fun hS => sB hS rfl fun hS => qF <| qv hS rfl hM (fun GA hM => ?_) (fun GA hM => ?_)
  ·refine wp_skip ?_
   refine qd <| xw <| qp <| sM hS rfl fun hS => sO hS (shr rfl rfl rfl) rfl fun hS => zz (v := Value.int .i64) (x0 := (xC .i64 Gw (1 : Int))) hS (xj rfl) rfl fun GB a w hz hS => ?_
   have hM := qC hz hM; clear hz
   refine qF <| zB <| sM hS rfl fun hS => sB hS rfl fun hS => zz (v := Value.int .i64) (x0 := (qh (Gv + (1 : Int)))) hS (xj rfl) rfl fun GC a w hz hS => ?_
   have hM := qC hz hM; clear hz
   refine zc <| zr (qd ?_)
   exact Gy _ _ ⟨GB, GC, hS.to [] (by kernel_rfl) ⟨rfl, rfl, rfl, trivial⟩, hM⟩
  ·refine wp_exit ?_
   refine qB (qB (qY (qd ?_)))
   refine qp <| sM hS rfl fun hS => sA hS rfl fun hS => qF <| wp_ret ?_
   exact zm (rs := [4]) hS rfl rfl (hret Gv _ (qV hM) (hS.st.pick [] (by kernel_rfl)))
theorem QF {H : xR} {F : List qq} {w : World} {R : Ending → World → Prop} {kr : Int → Prop} {kp : Value → Prop} (hG : Gl H) (K : Nat) (Gu : Int)
    (hS : St w H [] F) (hm : (yK.m K Gu).wp kr kp)
    (hret : ∀ (Gx : Int) (w : World), kr Gx → St w H [] F → R (.returned (.int .i64 Gx)) w) :
    Calls Tryd.prog 75 ⟨[.int .i64 Gu]⟩ w R := by
 refine enter Tryd.func75 rfl Tryd.ntmps75 rfl hS fun a w hS => ?_
 have hM := hm; clear hm
 rw [yK.m] at hM
 refine qp <| sA hS rfl fun hS => qF <| wp_seq <| xw <| qp <| sM hS rfl fun hS => sB hS rfl fun hS => zz (v := Value.bool) (x0 := (Gu == (258 : Int))) hS (xj rfl) rfl fun GC a w hz hS => ?_
 have hM := qC hz hM; clear hz
 refine qF <| qv hS rfl hM (fun Gv hM => ?_) (fun Gv hM => ?_)
 ·refine wp_seq ?_
  refine zB <| sA hS rfl fun hS => qF <| wp_ret <| zS (qz ?_)
  exact zm (rs := [2]) hS rfl rfl (hret (8 : Int) _ (qV hM) (hS.st.pick [] (by kernel_rfl)))
 ·refine wp_seq ?_
  refine zB <| sM hS rfl fun hS => sB hS rfl fun hS => zz (v := Value.bool) (x0 := (decide (Gu ≥ (115 : Int)))) hS (xj rfl) rfl fun GD a w hz hS => ?_
  have hM := qC hz hM; clear hz
  refine qF <| qv hS rfl hM (fun Gw hM => ?_) (fun Gw hM => ?_)
  ·refine wp_seq ?_
   refine zB <| sM hS rfl fun hS => sB hS rfl fun hS => qO hS rfl Tryd.call76 (uu hG K (qh (Gu - (3 : Int))) (2 : Int) (hS.st.part 0 [] (by kernel_rfl)) (qE hM) (fun Gy w hM  hst => qL hS.ev hst.appF rfl fun hS => ?_))
   replace hS : Ss _ _ _ H [] F _ _ := hS
   refine sB hS rfl fun hS => zz (v := Value.int .i64) (x0 := (qh ((8 : Int) + Gy))) hS (xj rfl) rfl fun Gz a w hz hS => ?_
   have hM := qC hz hM; clear hz
   refine qF <| wp_ret <| zS (qz ?_)
   exact zm (rs := [2]) hS rfl rfl (hret Gz _ (qV hM) (hS.st.pick [] (by kernel_rfl)))
  ·refine wp_skip ?_
   refine zr (qd ?_)
   refine qp <| sM hS rfl fun hS => sB hS rfl fun hS => qO hS rfl Tryd.call76 (uu hG K (qh (Gu - (3 : Int))) (2 : Int) (hS.st.part 0 [] (by kernel_rfl)) (qE hM) (fun GA w hM  hst => qL hS.ev hst.appF rfl fun hS => ?_))
   replace hS : Ss _ _ _ H [] F _ _ := hS
   refine sB hS rfl fun hS => zz (v := Value.int .i64) (x0 := (qh ((7 : Int) + GA))) hS (xj rfl) rfl fun GB a w hz hS => ?_
   have hM := qC hz hM; clear hz
   refine qF <| wp_ret ?_
   exact zm (rs := [2]) hS rfl rfl (hret GB _ (qV hM) (hS.st.pick [] (by kernel_rfl)))
theorem Yo {H : xR} {F : List qq} {w : World} {R : Ending → World → Prop} {kr : (Int × Int) → Prop} {kp : Value → Prop} (hG : Gl H) (K : Nat) (Gu : List qr) (GF : Option Addr) (GG : Nat) (GC : jm H [] F qr.cells GF Gu) (GT : Gu.length ≤ GG)
    (hS : St w H [] F) (hm : (x4.m K Gu).wp kr kp)
    (hret : ∀ (GQ : Int) (GR : Int) (w : World), kr (GQ, GR) → St w H [] F → R (.returned (.tuple ⟨[.int .i64 GQ, .int .i64 GR]⟩)) w) :
    Calls Tryd.prog 49 ⟨[.slice GF Gu.length GG]⟩ w R := by
 refine enter Tryd.func49 rfl Tryd.ntmps49 rfl hS fun a w hS => ?_
 have hM := hm; clear hm
 rw [x4.m] at hM
 refine qp <| sA hS rfl fun hS => sA hS rfl fun hS => qF <| qp <| sA hS rfl fun hS => qF <| wp_seq <| qp <| sM hS rfl fun hS => sO hS (xY rfl Tryd.runUnderlying25) rfl fun hS => sM hS rfl fun hS => qF <| xw <| zk (fun GS a w => ∃ (Gw : Int) (Gv : Int), Ss 47 [] [(4, .int .i64 Gw), (7, .slice GF Gu.length GG), (8, .int .i64 (Gu.length : Int)), (9, .int .i64 Gv)] H [] F a w ∧ (x4.l1 K Gu GS Gw Gv).wp kr kp) K ?_ ?_ ?_
 ·exact ⟨(7 : Int), (0 : Int), hS.to [] (by kernel_rfl) ⟨rfl, rfl, rfl, rfl, trivial⟩, hM⟩
 ·intro a w hI; obtain ⟨_, _, _, hM⟩ := hI; exact zj hM
 ·intro GS a w hI GV Gy
  obtain ⟨Gw, Gv, hS, hM⟩ := hI
  rw [x4.l1] at hM
  refine qp <| sB hS rfl fun hS => qF <| wp_seq <| qv hS rfl hM (fun GI hM => ?_) (fun GI hM => ?_)
  ·refine wp_skip ?_
   refine qd <| wp_seq <| xw <| wp_seq <| zB ?_
   obtain ⟨GD, hM⟩ := qH hM
   refine sO hS (xM rfl rfl Tryd.runUnderlying25 Tryd.sizeOf32 GC.wk (fun _ => rfl) rfl GD) rfl fun hS => sO hS (yL rfl GC.wk (fun _ => rfl) GD Tryd.isAgg32 Tryd.sizeOf32 rfl) rfl fun hS => Qs ([.int .u8 (0 : Int), .int .i64 (0 : Int), .int .i64 (0 : Int)]) hS Tryd.zeroValue32 rfl rfl fun w GB GW GJ hS => uz 0 ([.int .u8 ((rd Gu Gv).Lit_), .int .i64 ((rd Gu Gv).Len_), .int .i64 ((rd Gu Gv).Dist_)]) ([.int .u8 ((rd Gu Gv).Lit_), .int .i64 ((rd Gu Gv).Len_), .int .i64 ((rd Gu Gv).Dist_)]) hS rfl rfl GJ rfl rfl Tryd.sizeOf32 (by simp [Value.oneCell']) (Nat.le_of_ble_eq_true rfl) rfl fun w GK Gx hS => qF <| xw <| qp <| sO hS (vF 0 rfl Gx rfl ([.int .u8 ((rd Gu Gv).Lit_), .int .i64 ((rd Gu Gv).Len_), .int .i64 ((rd Gu Gv).Dist_)]) rfl rfl Tryd.isAgg32 Tryd.sizeOf32) rfl fun hS => qO hS rfl Tryd.call74 (Yz hG K (qr.mk ((rd Gu Gv).Lit_) ((rd Gu Gv).Len_) ((rd Gu Gv).Dist_)) (hS.st.part 0 [0] (by kernel_rfl)) (qE hM) (fun GU w hM  hst => qL hS.ev hst.appF rfl fun hS => ?_))
   replace hS : Ss _ _ _ H [GK] F _ _ := hS
   refine sO hS (un rfl rfl) rfl fun hS => zz (v := Value.bool) (x0 := (!GU)) hS (xj rfl) rfl fun GX a w hz hS => ?_
   have hM := qC hz hM; clear hz
   refine qF <| qv hS rfl hM (fun GL hM => ?_) (fun GL hM => ?_)
   ·refine wp_seq ?_
    refine zB <| sA hS rfl fun hS => sA hS rfl fun hS => qF <| wp_ret <| zS (zS (qz (qz (zS (qz ?_)))))
    exact zm (rs := [2, 3]) hS rfl rfl (hret (0 : Int) (1 : Int) _ (qV hM) (hS.st.pick [] (by kernel_rfl)))
   ·refine wp_seq ?_
    refine zB <| sO hS (xu rfl Tryd.runUnderlying32 rfl Tryd.sizeOf3 rfl) rfl fun hS => sO hS (xW 0 rfl Gx rfl rfl Tryd.isAgg3) rfl fun hS => sB hS rfl fun hS => sM hS rfl fun hS => yo 3 true 32 (b := ((rd Gu Gv).Dist_ == (0 : Int))) (r := (decide ((rd Gu Gv).Lit_ < (144 : Int)))) hS rfl rfl rfl rfl rfl rfl rfl (fun hb a w hS K hK => ?_) rfl fun a w hS => ?_
    ·refine zL hS rfl rfl rfl hb (xu rfl Tryd.runUnderlying32 rfl Tryd.sizeOf5 rfl) rfl fun a w hS => ?_
     refine zL hS rfl rfl rfl hb (xW 0 rfl Gx rfl rfl Tryd.isAgg5) rfl fun a w hS => zL hS rfl rfl rfl hb (yU rfl rfl rfl) rfl fun a w hS => ?_
     exact zc (hK _ _ (hS.up 3 rfl rfl))
    refine zz (v := Value.bool) (x0 := (((rd Gu Gv).Dist_ == (0 : Int)) && (decide ((rd Gu Gv).Lit_ < (144 : Int))))) hS (xj rfl) rfl fun GY a w hz hS => ?_
    have hM := qC hz hM; clear hz
    refine qF <| qv hS rfl hM (fun GM hM => ?_) (fun GM hM => ?_)
    ·refine zB ?_
     refine sM hS rfl fun hS => sB hS rfl fun hS => zz (v := Value.int .i64) (x0 := (qh (Gw + (8 : Int)))) hS (xj rfl) rfl fun GN a w hz hS => ?_
     have hM := qC hz hM; clear hz
     refine zc <| zr (zr (qd ?_))
     refine zB <| sB hS rfl fun hS => sM hS rfl fun hS => zc <| qd ?_
     exact Gy _ _ ⟨GN, (qh (Gv + (1 : Int))), hS.to [] (by kernel_rfl) ⟨rfl, rfl, rfl, rfl, trivial⟩, hM⟩
    ·refine wp_seq ?_
     refine zB <| sO hS (xu rfl Tryd.runUnderlying32 rfl Tryd.sizeOf3 rfl) rfl fun hS => sO hS (xW 0 rfl Gx rfl rfl Tryd.isAgg3) rfl fun hS => sB hS rfl fun hS => zz (v := Value.bool) (x0 := ((rd Gu Gv).Dist_ == (0 : Int))) hS (xj rfl) rfl fun GZ a w hz hS => ?_
     have hM := qC hz hM; clear hz
     refine qF <| qv hS rfl hM (fun GO hM => ?_) (fun GO hM => ?_)
     ·refine zB ?_
      refine sM hS rfl fun hS => sB hS rfl fun hS => zz (v := Value.int .i64) (x0 := (qh (Gw + (9 : Int)))) hS (xj rfl) rfl fun GP a w hz hS => ?_
      have hM := qC hz hM; clear hz
      refine zc <| zr (zr (qd ?_))
      refine zB <| sB hS rfl fun hS => sM hS rfl fun hS => zc <| qd ?_
      exact Gy _ _ ⟨GP, (qh (Gv + (1 : Int))), hS.to [] (by kernel_rfl) ⟨rfl, rfl, rfl, rfl, trivial⟩, hM⟩
     ·refine za (vals := [some (.int .i64 Gw), some (qS GB 1), some (.int .i64 ((rd Gu Gv).Len_)), none, none, some (qS GB 2), some (.int .i64 ((rd Gu Gv).Dist_)), some (.int .i64 (qh ((rd Gu Gv).Dist_ - (1 : Int)))), none, none, none, none]) hS xp rfl ?_
      intro l w ho hcl hA hst
      refine jn hA hst ho hcl xv xo 3 [0, 1, 2, 5, 6, 7] rfl rfl rfl rfl rfl (by exact ⟨nM rfl, nQ rfl (by exact qU (xu rfl Tryd.runUnderlying32 rfl Tryd.sizeOf3 rfl) rfl), nQ rfl (by exact qU (xW 0 rfl Gx rfl rfl Tryd.isAgg3) rfl), nQ rfl (by exact qU (xu rfl Tryd.runUnderlying32 rfl Tryd.sizeOf3 rfl) rfl), nQ rfl (by exact qU (xW 0 rfl Gx rfl rfl Tryd.isAgg3) rfl), nB rfl, trivial⟩) fun D l a w ho hcl hav hpre hm hE hk hA hst => ?_
      have hS := (Ss.mk hE hst).env2 (e' := [(15, .int .i64 ((rd Gu Gv).Len_))]) ⟨rfl, trivial⟩
      refine q7 rfl <| qO hS rfl Tryd.call75 (QF hG K ((rd Gu Gv).Len_) (hS.st.part 0 [0] (by kernel_rfl)) (qE hM) (fun Gz w hM  hst => qL hS.ev hst.appF rfl fun hS => ?_))
      replace hS : Ss _ _ _ H [GK] F _ _ := hS
      refine qF ?_
      replace hst := hS.st
      obtain ⟨hcl, hmust, hav2, hA⟩ := dn (vals' := [some (.int .i64 Gw), some (qS GB 1), some (.int .i64 ((rd Gu Gv).Len_)), some (.int .i64 Gz), some (.int .i64 (qh (Gz + (5 : Int)))), some (qS GB 2), some (.int .i64 ((rd Gu Gv).Dist_)), some (.int .i64 (qh ((rd Gu Gv).Dist_ - (1 : Int)))), none, none, none, none]) 3 [(2, 3), (1, 2)] hA hcl hav hm hpre hk rfl rfl rfl rfl rfl rfl rfl
      clear hm hav
      refine jn hA hst ho hcl hav2 hmust 8 [0, 4, 5, 6, 7] rfl rfl rfl rfl rfl (by exact ⟨nM rfl, nB rfl, nQ rfl (by exact qU (xu rfl Tryd.runUnderlying32 rfl Tryd.sizeOf3 rfl) rfl), nQ rfl (by exact qU (xW 0 rfl Gx rfl rfl Tryd.isAgg3) rfl), nB rfl, trivial⟩) fun D l a w ho hcl hav hpre hm hE hk hA hst => ?_
      have hS := (Ss.mk hE hst).env2 (e' := [(20, .int .i64 (qh ((rd Gu Gv).Dist_ - (1 : Int))))]) ⟨rfl, trivial⟩
      refine q7 rfl <| qO hS rfl Tryd.call76 (uu hG K (qh ((rd Gu Gv).Dist_ - (1 : Int))) (1 : Int) (hS.st.part 0 [0] (by kernel_rfl)) (qE hM) (fun GH w hM  hst => qL hS.ev hst.appF rfl fun hS => ?_))
      replace hS : Ss _ _ _ H [GK] F _ _ := hS
      refine qF ?_
      replace hst := hS.st
      obtain ⟨GA, GE⟩ : ∃ x, x = (qh (Gw + (qh ((qh (Gz + (5 : Int))) + GH)))) := ⟨_, rfl⟩
      replace hM := qC GE hM
      obtain ⟨hcl, hmust, hav2, hA⟩ := dn (vals' := [some (.int .i64 Gw), some (qS GB 1), some (.int .i64 ((rd Gu Gv).Len_)), some (.int .i64 Gz), some (.int .i64 (qh (Gz + (5 : Int)))), some (qS GB 2), some (.int .i64 ((rd Gu Gv).Dist_)), some (.int .i64 (qh ((rd Gu Gv).Dist_ - (1 : Int)))), some (.int .i64 GH), some (.int .i64 (qh ((qh (Gz + (5 : Int))) + GH))), some (.int .i64 (qh (Gw + (qh ((qh (Gz + (5 : Int))) + GH))))), some (.int .i64 GA)]) 8 [(3, 8), (7, 8), (2, 3), (6, 7), (1, 2), (5, 6)] hA hcl hav hm hpre hk rfl rfl rfl rfl rfl rfl rfl
      clear hm hav
      refine x3 hA hst ho hcl hmust [0, 4, 9, 10, 11] rfl rfl rfl (by exact ⟨nM rfl, nB rfl, nB rfl, nB rfl, nQ rfl (by exact qU (xj rfl) (congrArg (Value.int .i64) GE.symm)), trivial⟩) fun a w hS => ?_
      replace hS := hS.env2 (e' := [(4, .int .i64 GA), (7, .slice GF Gu.length GG), (8, .int .i64 (Gu.length : Int)), (9, .int .i64 Gv)]) ⟨rfl, rfl, rfl, rfl, trivial⟩
      refine zr (zr (qd ?_))
      refine zB <| sB hS rfl fun hS => sM hS rfl fun hS => zc <| qd ?_
      exact Gy _ _ ⟨GA, (qh (Gv + (1 : Int))), hS.to [] (by kernel_rfl) ⟨rfl, rfl, rfl, rfl, trivial⟩, hM⟩
  ·refine wp_exit ?_
   refine qB (qB (qY (qd ?_)))
   refine qp <| sM hS rfl fun hS => sA hS rfl fun hS => sA hS rfl fun hS => qF <| wp_ret ?_
   exact zm (rs := [2, 3]) hS rfl rfl (hret Gw (0 : Int) _ (qV hM) (hS.st.pick [] (by kernel_rfl)))
theorem Qh {H : xR} {F : List qq} {w : World} {R : Ending → World → Prop} {kr : Bool → Prop} {kp : Value → Prop} (hG : Gl H) (K : Nat) (Gu : List qr) (Gv : Option Addr) (Gw : Nat) (Gx : jm H [] F qr.cells Gv Gu) (Gy : Gu.length ≤ Gw)
    (hS : St w H [] F) (hm : (jd.m K Gu).wp kr kp)
    (hret : ∀ (Gz : Bool) (w : World), kr Gz → St w H [] F → R (.returned (.bool Gz)) w) :
    Calls Tryd.prog 21 ⟨[.slice Gv Gu.length Gw]⟩ w R := by
 refine enter Tryd.func21 rfl Tryd.ntmps21 rfl hS fun a w hS => ?_
 have hM := hm; clear hm
 rw [jd.m] at hM
 refine qp <| sA hS rfl fun hS => qF <| qp <| sM hS rfl fun hS => qO hS rfl Tryd.call49 (Yo hG K Gu Gv Gw (Gx.app _) Gy (hS.st.part 0 [] (by kernel_rfl)) (qE hM) (fun GC GA w hM  hst => qL hS.ev hst.appF rfl fun hS => ?_))
 replace hS : Ss _ _ _ H [] F _ _ := hS
 refine sM hS rfl fun hS => sO hS (ex rfl rfl) rfl fun hS => sO hS (ex rfl rfl) rfl fun hS => sA hS rfl fun hS => sA hS rfl fun hS => qF <| qp <| sM hS rfl fun hS => sB hS rfl fun hS => zz (v := Value.bool) (x0 := (GA == (0 : Int))) hS (xj rfl) rfl fun GB a w hz hS => ?_
 have hM := qC hz hM; clear hz
 refine qF <| wp_ret ?_
 exact zm (rs := [2]) hS rfl rfl (hret GB _ (qV hM) (hS.st.pick [] (by kernel_rfl)))
theorem QQ {H : xR} {F : List qq} {w : World} {R : Ending → World → Prop} {kr : ((List Int) × Bool) → Prop} {kp : Value → Prop} (hG : Gl H) (K : Nat) (Gu : List Int) (GQ : Option Addr) (GR : Nat) (GN : jm H [] F (ci .i64) GQ Gu) (G9 : Gu.length ≤ GR)
    (hS : St w H [] F) (hm : (xi.m K Gu).wp kr kp)
    (hret : ∀ (GS : (List Int)) (GU : Bool) (w : World), kr (GS, GU) → (GS.length = 16) → St w H [] F → R (.returned (.tuple ⟨[.agg ⟨GS.flatMap (ci .i64)⟩, .bool GU]⟩)) w) :
    Calls Tryd.prog 78 ⟨[.slice GQ Gu.length GR]⟩ w R := by
 refine enter Tryd.func78 rfl Tryd.ntmps78 rfl hS fun a w hS => ?_
 have hM := hm; clear hm
 rw [xi.m] at hM
 refine qp <| Qs ((List.replicate 16 (0 : Int)).flatMap (ci .i64)) hS Tryd.zeroValue136 rfl rfl fun w Gy G4 GE hS => sA hS rfl fun hS => qF <| wp_seq <| qp <| sM hS rfl fun hS => sO hS (xY rfl Tryd.runUnderlying45) rfl fun hS => sB hS rfl fun hS => qF <| qv hS rfl hM (fun GV hM => ?_) (fun GV hM => ?_)
 ·refine wp_seq ?_
  refine zB <| sO hS (YH (xs := (List.replicate 16 (0 : Int))) (g := (ci .i64)) (pre := []) (post := []) 0 rfl GE rfl (by simp) rfl (xB (g := (ci .i64)) (sz := 1) (fun _ => rfl) (List.length_replicate ..)) Tryd.isAgg136 Tryd.sizeOf136) rfl fun hS => Yt (xs := (List.replicate 16 (0 : Int))) (ys := (List.replicate 16 (0 : Int))) (g := (ci .i64)) (pre := []) (post := []) 0 hS rfl rfl GE rfl (by simp) rfl (xB (g := (ci .i64)) (sz := 1) (fun _ => rfl) (List.length_replicate ..)) (xB (g := (ci .i64)) (sz := 1) (fun _ => rfl) (List.length_replicate ..)) (xF) Tryd.sizeOf136 fun w G5 GF hS => ?_
  replace GF : xZ G5 Gy ((List.replicate 16 (0 : Int)).flatMap (ci .i64)) 136 := by simpa using GF
  refine sA hS rfl fun hS => qF <| wp_ret <| qz ?_
  exact yC (vs := [.agg ⟨(List.replicate 16 (0 : Int)).flatMap (ci .i64)⟩, .bool false]) hS rfl (by exact ⟨Du 0 rfl GF rfl (xB (g := (ci .i64)) (sz := 1) (fun _ => rfl) (List.length_replicate ..)) Tryd.isAgg136 Tryd.sizeOf136, ZI rfl, trivial⟩) (hret (List.replicate 16 (0 : Int)) false _ (qV hM) (List.length_replicate ..) (hS.st.pick [] (by kernel_rfl)))
 ·refine wp_skip ?_
  refine qd <| zg (fun a w => ∃ (Gz : (List Int)) (GT : qq), Ss 31 [] [(2, qS Gy 0)] H [GT] F a w ∧ (Gz.length = 16) ∧ (xZ GT Gy (Gz.flatMap (ci .i64)) 136) ∧ (xi.j2 K Gz).wp kr kp) (fun La GW => ?_) ?_
  ·refine wp_seq ?_
   refine zB <| sM hS rfl fun hS => sO hS (xY rfl Tryd.runUnderlying45) rfl fun hS => sM hS rfl fun hS => qF <| xw <| zk (fun GX a w => ∃ (Gv : (List Int)) (GM : qq) (GG : Int), Ss 31 [] [(2, qS Gy 0), (10, .slice GQ Gu.length GR), (11, .int .i64 (Gu.length : Int)), (12, .int .i64 GG)] H [GM] F a w ∧ (Gv.length = 16) ∧ (xZ GM Gy (Gv.flatMap (ci .i64)) 136) ∧ (xi.l1 K Gu GX Gv GG).wp kr kp) K ?_ ?_ ?_
   ·exact ⟨(List.replicate 16 (0 : Int)), G4, (0 : Int), hS.to [0] (by kernel_rfl) ⟨rfl, rfl, rfl, rfl, trivial⟩, (List.length_replicate ..), GE, hM⟩
   ·intro a w hI; obtain ⟨_, _, _, _, _, _, hM⟩ := hI; exact zj hM
   ·intro GX a w hI Lb GY
    obtain ⟨Gv, GM, GG, hS, Gw, GA, hM⟩ := hI
    rw [xi.l1] at hM
    refine qp <| sB hS rfl fun hS => qF <| wp_seq <| qv hS rfl hM (fun GZ hM => ?_) (fun GZ hM => ?_)
    ·refine wp_skip ?_
     refine qd <| wp_seq <| xw <| wp_seq <| zB ?_
     obtain ⟨GO, hM⟩ := qH hM
     refine sO hS (xM rfl rfl Tryd.runUnderlying45 Tryd.sizeOf3 GN.wk (fun _ => rfl) rfl GO) rfl fun hS => sO hS (yd rfl GN.wk (fun _ => rfl) GO rfl Tryd.isAgg3) rfl fun hS => zz (v := Value.int .i64) (x0 := (rd Gu GG)) hS (xj rfl) rfl fun GH a w hz hS => ?_
     have hM := qC hz hM; clear hz
     refine qF <| wp_seq <| qp <| sM hS rfl fun hS => sB hS rfl fun hS => sM hS rfl fun hS => yo 2 false 18 (b := (decide (GH < (0 : Int)))) (r := (decide (GH > (15 : Int)))) hS rfl rfl rfl rfl rfl rfl rfl (fun hb a w hS K hK => ?_) rfl fun a w hS => ?_
     ·refine zL hS rfl rfl rfl hb (mv rfl) rfl fun a w hS => ?_
      refine zL hS rfl rfl rfl hb (yU rfl rfl rfl) rfl fun a w hS => ?_
      exact zc (hK _ _ (hS.up 2 rfl rfl))
     refine qF <| qv hS rfl hM (fun G0 hM => ?_) (fun G0 hM => ?_)
     ·refine wp_seq ?_
      refine zB <| sO hS (YH (xs := Gv) (g := (ci .i64)) (pre := []) (post := []) 0 rfl GA rfl (by simp) rfl (xB (g := (ci .i64)) (sz := 1) (fun _ => rfl) Gw) Tryd.isAgg136 Tryd.sizeOf136) rfl fun hS => Yt (xs := Gv) (ys := Gv) (g := (ci .i64)) (pre := []) (post := []) 0 hS rfl rfl GA rfl (by simp) rfl (xB (g := (ci .i64)) (sz := 1) (fun _ => rfl) Gw) (xB (g := (ci .i64)) (sz := 1) (fun _ => rfl) Gw) (xF) Tryd.sizeOf136 fun w G6 GI hS => ?_
      replace GI : xZ G6 Gy (Gv.flatMap (ci .i64)) 136 := by simpa using GI
      refine sA hS rfl fun hS => qF <| wp_ret <| qz (zS (qz (qz (zS (qz ?_)))))
      exact yC (vs := [.agg ⟨Gv.flatMap (ci .i64)⟩, .bool false]) hS rfl (by exact ⟨Du 0 rfl GI rfl (xB (g := (ci .i64)) (sz := 1) (fun _ => rfl) Gw) Tryd.isAgg136 Tryd.sizeOf136, ZI rfl, trivial⟩) (hret Gv false _ (qV hM) Gw (hS.st.pick [] (by kernel_rfl)))
     ·refine wp_skip ?_
      refine qd <| zB <| sM hS rfl fun hS => ?_
      obtain ⟨GC, hM⟩ := qH hM
      refine sO hS (Bu rfl rfl Tryd.runUnderlying136 Tryd.sizeOf3 GC) rfl fun hS => sO hS (DB (xs := Gv) (g := (ci .i64)) (pre := []) (post := []) 0 rfl GA rfl (by simp) rfl (fun _ => rfl) (vY Gw GC) rfl Tryd.isAgg3) rfl fun hS => sB hS rfl fun hS => sO hS (Bu rfl rfl Tryd.runUnderlying136 Tryd.sizeOf3 GC) rfl fun hS => DG (xs := Gv) (g := (ci .i64)) (pre := []) (post := []) 0 ((qh ((rd Gv GH) + (1 : Int)))) hS rfl rfl GA rfl (by simp) rfl (fun _ => rfl) (vY Gw GC) rfl Tryd.sizeOf3 (xF _) fun GJ w G1 hz GK hS => ?_
      have G2 : GJ.length = 16 := by rw [hz, List.length_set]; exact Gw
      have hM := qC hz hM; clear hz
      replace GK : xZ G1 Gy (GJ.flatMap (ci .i64)) 136 := by simpa using GK
      refine zc <| zr (qd ?_)
      refine zB <| sB hS rfl fun hS => sM hS rfl fun hS => zc <| qd ?_
      exact GY _ _ ⟨GJ, G1, (qh (GG + (1 : Int))), hS.to [0] (by kernel_rfl) ⟨rfl, rfl, rfl, rfl, trivial⟩, G2, GK, hM⟩
    ·refine wp_exit ?_
     refine qB (qB (qY (qd ?_)))
     exact GW _ _ ⟨Gv, GM, hS.to [0] (by kernel_rfl) ⟨rfl, trivial⟩, Gw, GA, hM⟩
  ·intro a w hI
   obtain ⟨Gz, GT, hS, GP, G3, hM⟩ := hI
   rw [xi.j2] at hM
   refine qp <| sO hS (Bu rfl rfl Tryd.runUnderlying136 Tryd.sizeOf3 rfl) rfl fun hS => DG (xs := Gz) (g := (ci .i64)) (pre := []) (post := []) 0 ((0 : Int)) hS rfl rfl G3 rfl (by simp) rfl (fun _ => rfl) (vY GP rfl) rfl Tryd.sizeOf3 (xF _) fun Gx w G7 hz GD hS => ?_
   have GB : Gx.length = 16 := by rw [hz, List.length_set]; exact GP
   have hM := qC hz hM; clear hz
   replace GD : xZ G7 Gy (Gx.flatMap (ci .i64)) 136 := by simpa using GD
   refine qF <| qp <| sO hS (YH (xs := Gx) (g := (ci .i64)) (pre := []) (post := []) 0 rfl GD rfl (by simp) rfl (xB (g := (ci .i64)) (sz := 1) (fun _ => rfl) GB) Tryd.isAgg136 Tryd.sizeOf136) rfl fun hS => Yt (xs := Gx) (ys := Gx) (g := (ci .i64)) (pre := []) (post := []) 0 hS rfl rfl GD rfl (by simp) rfl (xB (g := (ci .i64)) (sz := 1) (fun _ => rfl) GB) (xB (g := (ci .i64)) (sz := 1) (fun _ => rfl) GB) (xF) Tryd.sizeOf136 fun w G8 GL hS => ?_
   replace GL : xZ G8 Gy (Gx.flatMap (ci .i64)) 136 := by simpa using GL
   refine sA hS rfl fun hS => qF <| wp_ret ?_
   exact yC (vs := [.agg ⟨Gx.flatMap (ci .i64)⟩, .bool true]) hS rfl (by exact ⟨Du 0 rfl GL rfl (xB (g := (ci .i64)) (sz := 1) (fun _ => rfl) GB) Tryd.isAgg136 Tryd.sizeOf136, ZI rfl, trivial⟩) (hret Gx true _ (qV hM) GB (hS.st.pick [] (by kernel_rfl)))
theorem YU {H : xR} {F : List qq} {w : World} {R : Ending → World → Prop} {kr : Int → Prop} {kp : Value → Prop} (hG : Gl H) (K : Nat) (Gu : List Int) (GB : Option Addr) (GC : Nat) (GG : jm H [] F (ci .i64) GB Gu) (GH : Gu.length ≤ GC)
    (hS : St w H [] F) (hm : (xx.m K Gu).wp kr kp)
    (hret : ∀ (GI : Int) (w : World), kr GI → St w H [] F → R (.returned (.int .i64 GI)) w) :
    Calls Tryd.prog 77 ⟨[.slice GB Gu.length GC]⟩ w R := by
 refine enter Tryd.func77 rfl Tryd.ntmps77 rfl hS fun a w hS => ?_
 have hM := hm; clear hm
 rw [xx.m] at hM
 refine qp <| sA hS rfl fun hS => qF <| qp <| sM hS rfl fun hS => qO hS rfl Tryd.call78 (QQ hG K Gu GB GC (GG.app _) GH (hS.st.part 0 [] (by kernel_rfl)) (qE hM) (fun Gx GT w hM GA hst => qL hS.ev hst.appF rfl fun hS => ?_))
 replace hS : Ss _ _ _ H [] F _ _ := hS
 refine sM hS rfl fun hS => sO hS (ex rfl rfl) rfl fun hS => sO hS (ex rfl rfl) rfl fun hS => Qs ((List.replicate 16 (0 : Int)).flatMap (ci .i64)) hS Tryd.zeroValue136 rfl rfl fun w GD GU GJ hS => Yt (xs := (List.replicate 16 (0 : Int))) (ys := Gx) (g := (ci .i64)) (pre := []) (post := []) 0 hS rfl rfl GJ rfl (by simp) rfl (xB (g := (ci .i64)) (sz := 1) (fun _ => rfl) (List.length_replicate ..)) (xB (g := (ci .i64)) (sz := 1) (fun _ => rfl) GA) (xF) Tryd.sizeOf136 fun w GE Gy hS => ?_
 replace Gy : xZ GE GD (Gx.flatMap (ci .i64)) 136 := by simpa using Gy
 refine sA hS rfl fun hS => qF <| wp_seq <| qp <| sM hS rfl fun hS => sO hS (un rfl rfl) rfl fun hS => qF <| qv hS rfl hM (fun GK hM => ?_) (fun GK hM => ?_)
 ·refine wp_seq ?_
  refine zB <| sA hS rfl fun hS => qF <| wp_ret <| qz ?_
  exact zm (rs := [2]) hS rfl rfl (hret (1 : Int) _ (qV hM) (hS.st.pick [] (by kernel_rfl)))
 ·refine wp_skip ?_
  refine qd <| qp <| sA hS rfl fun hS => qF <| zg (fun a w => ∃ (Gv : Int), Ss 38 [] [(3, qS GD 0), (5, .int .i64 Gv)] H [GE] F a w ∧ (xx.j2 K Gx Gv).wp kr kp) (fun GV GL => ?_) ?_
  ·refine wp_seq ?_
   refine zB <| sO hS (YH (xs := Gx) (g := (ci .i64)) (pre := []) (post := []) 0 rfl Gy rfl (by simp) rfl (xB (g := (ci .i64)) (sz := 1) (fun _ => rfl) GA) Tryd.isAgg136 Tryd.sizeOf136) rfl fun hS => sM hS rfl fun hS => qF <| xw <| zk (fun GM a w => ∃ (Gw : Int) (Gz : Int), Ss 38 [] [(3, qS GD 0), (5, .int .i64 Gw), (15, .agg ⟨Gx.flatMap (ci .i64)⟩), (16, .int .i64 Gz)] H [GE] F a w ∧ (xx.l1 K Gx GM Gw Gz).wp kr kp) K ?_ ?_ ?_
   ·exact ⟨(0 : Int), (0 : Int), hS.to [0] (by kernel_rfl) ⟨rfl, rfl, rfl, rfl, trivial⟩, hM⟩
   ·intro a w hI; obtain ⟨_, _, _, hM⟩ := hI; exact zj hM
   ·intro GM a w hI GW GN
    obtain ⟨Gw, Gz, hS, hM⟩ := hI
    rw [xx.l1] at hM
    refine qp <| sB hS rfl fun hS => qF <| wp_seq <| qv hS rfl hM (fun GO hM => ?_) (fun GO hM => ?_)
    ·refine wp_skip ?_
     refine qd <| wp_seq <| xw <| qp <| sM hS rfl fun hS => ?_
     obtain ⟨GP, hM⟩ := qH hM
     refine sO hS (DU rfl rfl Tryd.runUnderlying136 Tryd.isAgg3 Tryd.sizeOf3 (fun _ => rfl) GA GP rfl) rfl fun hS => sA hS rfl fun hS => zz (v := Value.int .i64) (x0 := (rd Gx Gz)) hS (xj rfl) rfl fun GQ a w hz hS => ?_
     have hM := qC hz hM; clear hz
     refine qF <| zB <| sM hS rfl fun hS => sM hS rfl fun hS => sM hS rfl fun hS => ?_
     obtain ⟨GR, hM⟩ := qH hM
     refine sO hS (shr rfl rfl GR) rfl fun hS => sB hS rfl fun hS => sB hS rfl fun hS => zz (v := Value.int .i64) (x0 := (qh (Gw + (qh (GQ * (xC .i64 (32768 : Int) Gz)))))) hS (xj rfl) rfl fun GF a w hz hS => ?_
     have hM := qC hz hM; clear hz
     refine zc <| zr (qd ?_)
     refine zB <| sB hS rfl fun hS => sM hS rfl fun hS => zc <| qd ?_
     exact GN _ _ ⟨GF, (qh (Gz + (1 : Int))), hS.to [0] (by kernel_rfl) ⟨rfl, rfl, rfl, rfl, trivial⟩, hM⟩
    ·refine wp_exit ?_
     refine qB (qB (qY (qd ?_)))
     exact GL _ _ ⟨Gw, hS.to [0] (by kernel_rfl) ⟨rfl, rfl, trivial⟩, hM⟩
  ·intro a w hI
   obtain ⟨Gv, hS, hM⟩ := hI
   rw [xx.j2] at hM
   refine wp_seq <| qp <| sM hS rfl fun hS => sB hS rfl fun hS => sM hS rfl fun hS => yo 2 false 29 (b := (Gv == (0 : Int))) (r := (Gv == (32768 : Int))) hS rfl rfl rfl rfl rfl rfl rfl (fun hb a w hS K hK => ?_) rfl fun a w hS => ?_
   ·refine zL hS rfl rfl rfl hb (mv rfl) rfl fun a w hS => ?_
    refine zL hS rfl rfl rfl hb (yU rfl rfl rfl) rfl fun a w hS => ?_
    exact zc (hK _ _ (hS.up 2 rfl rfl))
   refine sM hS rfl fun hS => yo 3 false 33 (b := ((Gv == (0 : Int)) || (Gv == (32768 : Int)))) (r := (Gx == ([0, (1 : Int), 0, 0, 0, 0, 0, 0, 0, 0, 0, 0, 0, 0, 0, 0] : List Int))) hS rfl rfl rfl rfl rfl rfl rfl (fun hb a w hS K hK => ?_) rfl fun a w hS => ?_
   ·refine zL hS rfl rfl rfl hb (YH (xs := Gx) (g := (ci .i64)) (pre := []) (post := []) 0 rfl Gy rfl (by simp) rfl (xB (g := (ci .i64)) (sz := 1) (fun _ => rfl) GA) Tryd.isAgg136 Tryd.sizeOf136) rfl fun a w hS => ?_
    refine zL hS rfl rfl rfl hb (BB (([0, (1 : Int), 0, 0, 0, 0, 0, 0, 0, 0, 0, 0, 0, 0, 0, 0] : List Int).flatMap (ci .i64)) Tryd.zeroValue136 Tryd.runUnderlying136 Tryd.sizeOf3 rfl (by kernel_rfl)) rfl fun a w hS => zL hS rfl rfl rfl hb (B9 rfl rfl Tryd.runUnderlying136 Tryd.runUnderlying3 Tryd.sizeOf3 Tryd.isAgg3 GA rfl Tryd.eqGuardType136 rfl) rfl fun a w hS => ?_
    exact zc (hK _ _ (hS.up 3 rfl rfl))
   refine qF <| qv hS rfl hM (fun GS hM => ?_) (fun GS hM => ?_)
   ·refine wp_seq ?_
    refine zB <| sA hS rfl fun hS => qF <| wp_ret <| qz ?_
    exact zm (rs := [2]) hS rfl rfl (hret (0 : Int) _ (qV hM) (hS.st.pick [] (by kernel_rfl)))
   ·refine wp_skip ?_
    refine qd <| qp <| sA hS rfl fun hS => qF <| wp_ret ?_
    exact zm (rs := [2]) hS rfl rfl (hret (3 : Int) _ (qV hM) (hS.st.pick [] (by kernel_rfl)))
theorem uR {H : xR} {F : List qq} {w : World} {R : Ending → World → Prop} {kr : (List Int) → Prop} {kp : Value → Prop} (hG : Gl H) (K : Nat) (Gx : List Int) (GN : Gx.length = 16)
    (hS : St w H [] F) (hm : (zP.m K Gx).wp kr kp)
    (hret : ∀ (GL : (List Int)) (w : World), kr GL → (GL.length = 16) → St w H [] F → R (.returned (.agg ⟨GL.flatMap (ci .i64)⟩)) w) :
    Calls Tryd.prog 79 ⟨[.agg ⟨Gx.flatMap (ci .i64)⟩]⟩ w R := by
 refine enter Tryd.func79 rfl Tryd.ntmps79 rfl hS fun a w hS => ?_
 have hM := hm; clear hm
 rw [zP.m] at hM
 refine qp <| bx (Gx.flatMap (ci .i64)) hS rfl rfl rfl fun w GX GY GO hS => Qs ((List.replicate 16 (0 : Int)).flatMap (ci .i64)) hS Tryd.zeroValue136 rfl rfl fun w GB GZ GP hS => qF <| qp <| sA hS rfl fun hS => qF <| zg (fun a w => ∃ (Gu : (List Int)) (GM : qq), Ss 20 [] [(2, qS GB 0)] H [GM] F a w ∧ (Gu.length = 16) ∧ (xZ GM GB (Gu.flatMap (ci .i64)) 136) ∧ (zP.j2 K Gu).wp kr kp) (fun G1 GQ => ?_) ?_
 ·refine wp_seq ?_
  refine zB <| sA hS rfl fun hS => qF <| xw <| zk (fun GR a w => ∃ (Gv : (List Int)) (GG : qq) (Gw : Int) (Gy : Int), Ss 20 [] [(1, qS GX 0), (2, qS GB 0), (3, .int .i64 Gw), (4, .int .i64 Gy)] H [GY, GG] F a w ∧ (Gv.length = 16) ∧ (xZ GG GB (Gv.flatMap (ci .i64)) 136) ∧ (zP.l1 K Gx GR Gv Gw Gy).wp kr kp) K ?_ ?_ ?_
  ·exact ⟨(List.replicate 16 (0 : Int)), GZ, (0 : Int), (1 : Int), hS.to [1, 0] (by kernel_rfl) ⟨rfl, rfl, rfl, rfl, trivial⟩, (List.length_replicate ..), GP, hM⟩
  ·intro a w hI; obtain ⟨_, _, _, _, _, _, _, hM⟩ := hI; exact zj hM
  ·intro GR a w hI G2 GS
   obtain ⟨Gv, GG, Gw, Gy, hS, GC, GH, hM⟩ := hI
   rw [zP.l1] at hM
   refine wp_seq <| qp <| sM hS rfl fun hS => sB hS rfl fun hS => qF <| qv hS rfl hM (fun GT hM => ?_) (fun GT hM => ?_)
   ·refine wp_skip ?_
    refine qd <| wp_seq <| xw <| qp <| sM hS rfl fun hS => sM hS rfl fun hS => sB hS rfl fun hS => ?_
    obtain ⟨GI, hM⟩ := qH hM
    refine sO hS (Bu rfl rfl Tryd.runUnderlying136 Tryd.sizeOf3 GI) rfl fun hS => sO hS (DB (xs := Gx) (g := (ci .i64)) (pre := []) (post := []) 0 rfl GO rfl (by simp) rfl (fun _ => rfl) (vY GN GI) rfl Tryd.isAgg3) rfl fun hS => sB hS rfl fun hS => sO hS (shl rfl rfl rfl) rfl fun hS => zz (v := Value.int .i64) (x0 := (xz .i64 (qh (Gw + (rd Gx (qh (Gy - (1 : Int)))))) (1 : Int))) hS (xj rfl) rfl fun GA a w hz hS => ?_
    have hM := qC hz hM; clear hz
    refine qF <| zB <| sM hS rfl fun hS => sM hS rfl fun hS => ?_
    obtain ⟨GJ, hM⟩ := qH hM
    refine sO hS (Bu rfl rfl Tryd.runUnderlying136 Tryd.sizeOf3 GJ) rfl fun hS => DG (xs := Gv) (g := (ci .i64)) (pre := []) (post := []) 1 (GA) hS rfl rfl GH rfl (by simp) rfl (fun _ => rfl) (vY GC GJ) rfl Tryd.sizeOf3 (xF _) fun GD w GU hz GE hS => ?_
    have GV : GD.length = 16 := by rw [hz, List.length_set]; exact GC
    have hM := qC hz hM; clear hz
    replace GE : xZ GU GB (GD.flatMap (ci .i64)) 136 := by simpa using GE
    refine zc <| zr (qd ?_)
    refine zB <| sM hS rfl fun hS => sB hS rfl fun hS => zz (v := Value.int .i64) (x0 := (qh (Gy + (1 : Int)))) hS (xj rfl) rfl fun GW a w hz hS => ?_
    have hM := qC hz hM; clear hz
    refine zc <| qd ?_
    exact GS _ _ ⟨GD, GU, GA, GW, hS.to [0, 1] (by kernel_rfl) ⟨rfl, rfl, rfl, rfl, trivial⟩, GV, GE, hM⟩
   ·refine wp_exit ?_
    refine qB (qB (qY (qd ?_)))
    exact GQ _ _ ⟨Gv, GG, hS.to [1] (by kernel_rfl) ⟨rfl, trivial⟩, GC, GH, hM⟩
 ·intro a w hI
  obtain ⟨Gu, GM, hS, Gz, GK, hM⟩ := hI
  rw [zP.j2] at hM
  refine qp <| sO hS (YH (xs := Gu) (g := (ci .i64)) (pre := []) (post := []) 0 rfl GK rfl (by simp) rfl (xB (g := (ci .i64)) (sz := 1) (fun _ => rfl) Gz) Tryd.isAgg136 Tryd.sizeOf136) rfl fun hS => Yt (xs := Gu) (ys := Gu) (g := (ci .i64)) (pre := []) (post := []) 0 hS rfl rfl GK rfl (by simp) rfl (xB (g := (ci .i64)) (sz := 1) (fun _ => rfl) Gz) (xB (g := (ci .i64)) (sz := 1) (fun _ => rfl) Gz) (xF) Tryd.sizeOf136 fun w G0 GF hS => ?_
  replace GF : xZ G0 GB (Gu.flatMap (ci .i64)) 136 := by simpa using GF
  refine qF <| wp_ret ?_
  exact yC (vs := [.agg ⟨Gu.flatMap (ci .i64)⟩]) hS rfl (by exact ⟨Du 0 rfl GF rfl (xB (g := (ci .i64)) (sz := 1) (fun _ => rfl) Gz) Tryd.isAgg136 Tryd.sizeOf136, trivial⟩) (hret Gu _ (qV hM) Gz (hS.st.pick [] (by kernel_rfl)))
theorem YS {H : xR} {F : List qq} {w : World} {R : Ending → World → Prop} {kr : ((List Int) × Int) → Prop} {kp : Value → Prop} (hG : Gl H) (K : Nat) (Gu : List Int) (GF : Option Addr) (GG : Nat) (GC : jm H [] F (ci .i64) GF Gu) (GR : Gu.length ≤ GG)
    (hS : St w H [] F) (hm : (yb.m K Gu).wp kr kp)
    (hret : ∀ (G0 : Option Addr) (G1 : Nat) (GW : (List Int)) (G2 : qq) (G3 : Int) (w : World), kr (GW, G3) → (xa 3 (ci .i64) 1 G0 GW G1 G2) → St w H [G2] F → R (.returned (.tuple ⟨[.slice G0 GW.length G1, .int .i64 G3]⟩)) w) :
    Calls Tryd.prog 53 ⟨[.slice GF Gu.length GG]⟩ w R := by
 refine enter Tryd.func53 rfl Tryd.ntmps53 rfl hS fun a w hS => ?_
 have hM := hm; clear hm
 rw [yb.m] at hM
 refine qp <| sA hS rfl fun hS => ?_
 obtain ⟨GX, Lp, hS⟩ := hS.nilV 3 (ci .i64) 1
 refine sA hS rfl fun hS => qF <| wp_seq <| qp <| sM hS rfl fun hS => qO hS rfl Tryd.call77 (YU hG K Gu GF GG (GC.app _) GR (hS.st.part 0 [0] (by kernel_rfl)) (qE hM) (fun Lk w hM  hst => qL hS.ev hst.appF rfl fun hS => ?_))
 replace hS : Ss _ _ _ H [GX] F _ _ := hS
 refine sA hS rfl fun hS => qF <| qp <| sM hS rfl fun hS => sB hS rfl fun hS => qF <| qv hS rfl hM (fun G4 hM => ?_) (fun G4 hM => ?_)
 ·refine wp_seq ?_
  refine zB <| sM hS rfl fun hS => sA hS rfl fun hS => ?_
  obtain ⟨Ll, G5, hS⟩ := hS.nilV 3 (ci .i64) 1
  refine sA hS rfl fun hS => qF <| wp_ret <| qz ?_
  exact zm (rs := [2, 3]) hS rfl rfl (hret none (0) ([] : List Int) Ll Lk _ (qV hM) G5 (hS.st.pick [0] (by kernel_rfl)))
 ·refine wp_skip ?_
  refine qd <| qp <| sM hS rfl fun hS => qO hS rfl Tryd.call78 (QQ hG K Gu GF GG (GC.app _) GR (hS.st.part 0 [0] (by kernel_rfl)) (qE hM) (fun GO Lq w hM GY hst => qL hS.ev hst.appF rfl fun hS => ?_))
  replace hS : Ss _ _ _ H [GX] F _ _ := hS
  refine sM hS rfl fun hS => sO hS (ex rfl rfl) rfl fun hS => sO hS (ex rfl rfl) rfl fun hS => Qs ((List.replicate 16 (0 : Int)).flatMap (ci .i64)) hS Tryd.zeroValue136 rfl rfl fun w Lm Lr G6 hS => Yt (xs := (List.replicate 16 (0 : Int))) (ys := GO) (g := (ci .i64)) (pre := []) (post := []) 0 hS rfl rfl G6 rfl (by simp) rfl (xB (g := (ci .i64)) (sz := 1) (fun _ => rfl) (List.length_replicate ..)) (xB (g := (ci .i64)) (sz := 1) (fun _ => rfl) GY) (xF) Tryd.sizeOf136 fun w G7 GH hS => ?_
  replace GH : xZ G7 Lm (GO.flatMap (ci .i64)) 136 := by simpa using GH
  refine sA hS rfl fun hS => qF <| qp <| sO hS (YH (xs := GO) (g := (ci .i64)) (pre := []) (post := []) 0 rfl GH rfl (by simp) rfl (xB (g := (ci .i64)) (sz := 1) (fun _ => rfl) GY) Tryd.isAgg136 Tryd.sizeOf136) rfl fun hS => qO hS rfl Tryd.call79 (uR hG K GO GY (hS.st.part 0 [0, 1] (by kernel_rfl)) (qE hM) (fun GZ w hM G8 hst => qL hS.ev hst.appF rfl fun hS => ?_))
  replace hS : Ss _ _ _ H [G7, GX] F _ _ := hS
  refine Qs ((List.replicate 16 (0 : Int)).flatMap (ci .i64)) hS Tryd.zeroValue136 rfl rfl fun w GP Lt G9 hS => Yt (xs := (List.replicate 16 (0 : Int))) (ys := GZ) (g := (ci .i64)) (pre := []) (post := []) 0 hS rfl rfl G9 rfl (by simp) rfl (xB (g := (ci .i64)) (sz := 1) (fun _ => rfl) (List.length_replicate ..)) (xB (g := (ci .i64)) (sz := 1) (fun _ => rfl) G8) (xF) Tryd.sizeOf136 fun w La GI hS => ?_
  replace GI : xZ La GP (GZ.flatMap (ci .i64)) 136 := by simpa using GI
  refine qF <| qp <| sM hS rfl fun hS => sO hS (xY rfl Tryd.runUnderlying45) rfl fun hS => ?_
  obtain ⟨Lb, hM⟩ := qH hM
  refine Ug (g := (ci .i64)) (m := (Gu.length : Int)) (0 : Int) hS rfl rfl (by simp) Tryd.runUnderlying45 X.el3 (fun w => ⟨_, Tryd.zeroValue3 w, rfl⟩) (fun _ => rfl) rfl rfl Lb rfl fun Lc w Gz GA Ln hz Ld hS => ?_
  have hM := qC hz hM; clear hz
  refine sA hS rfl fun hS => qF <| wp_seq <| qp <| sM hS rfl fun hS => sO hS (xY rfl Tryd.runUnderlying45) rfl fun hS => sM hS rfl fun hS => qF <| xw <| zk (fun Le a w => ∃ (Gv : (List Int)) (GQ : qq) (Gw : (List Int)) (GJ : qq) (GB : Int), Ss 48 [] [(7, qS GP 0), (8, .slice Gz Gw.length GA), (26, .slice GF Gu.length GG), (27, .int .i64 (Gu.length : Int)), (28, .int .i64 GB)] H [GQ, GJ] F a w ∧ (Gv.length = 16) ∧ (xZ GQ GP (Gv.flatMap (ci .i64)) 136) ∧ (xa 3 (ci .i64) 1 Gz Gw GA GJ) ∧ (yb.l1 K Gu Le Gv Gw GB).wp kr kp) K ?_ ?_ ?_
  ·exact ⟨GZ, La, Lc, Ln, (0 : Int), hS.to [1, 0] (by kernel_rfl) ⟨rfl, rfl, rfl, rfl, rfl, trivial⟩, G8, GI, Ld, hM⟩
  ·intro a w hI; obtain ⟨_, _, _, _, _, _, _, _, _, hM⟩ := hI; exact zj hM
  ·intro Le a w hI Lu GS
   obtain ⟨Gv, GQ, Gw, GJ, GB, hS, Gy, GD, GE, hM⟩ := hI
   rw [yb.l1] at hM
   refine qp <| sB hS rfl fun hS => qF <| wp_seq <| qv hS rfl hM (fun Lf hM => ?_) (fun Lf hM => ?_)
   ·refine wp_skip ?_
    refine qd <| wp_seq <| xw <| qp <| sM hS rfl fun hS => ?_
    obtain ⟨GT, hM⟩ := qH hM
    refine sO hS (xM rfl rfl Tryd.runUnderlying45 Tryd.sizeOf3 GC.wk (fun _ => rfl) rfl GT) rfl fun hS => sO hS (yd rfl GC.wk (fun _ => rfl) GT rfl Tryd.isAgg3) rfl fun hS => sA hS rfl fun hS => zz (v := Value.int .i64) (x0 := (rd Gu GB)) hS (xj rfl) rfl fun GK a w hz hS => ?_
    have hM := qC hz hM; clear hz
    refine qF <| qp <| sM hS rfl fun hS => sB hS rfl fun hS => qF <| qv hS rfl hM (fun Lg hM => ?_) (fun Lg hM => ?_)
    ·refine wp_seq ?_
     refine zB <| sM hS rfl fun hS => sM hS rfl fun hS => sM hS rfl fun hS => ?_
     obtain ⟨Gx, hM⟩ := qH hM
     refine sO hS (Bu rfl rfl Tryd.runUnderlying136 Tryd.sizeOf3 Gx) rfl fun hS => sO hS (DB (xs := Gv) (g := (ci .i64)) (pre := []) (post := []) 0 rfl GD rfl (by simp) rfl (fun _ => rfl) (vY Gy Gx) rfl Tryd.isAgg3) rfl fun hS => ?_
     obtain ⟨GU, hM⟩ := qH hM
     refine sO hS (xM rfl rfl Tryd.runUnderlying45 Tryd.sizeOf3 (GE.rd (i := 1) rfl) (fun _ => rfl) rfl GU) rfl fun hS => Xk (i := GB) (sz := 1) 1 0 ((rd Gv GK)) hS rfl rfl GE rfl Tryd.sizeOf3 (xF (rd Gv GK)) (fun _ => rfl) GU rfl rfl fun GL w Lo hz GV Lh hS => ?_
     have hM := qC hz hM; clear hz
     replace hS := hS.re 8 (u := .slice Gz Gw.length GA) (v := .slice Gz GL.length GA) rfl (by rw [GV])
     replace hS := hS.re 35 (u := .slice Gz Gw.length GA) (v := .slice Gz GL.length GA) rfl (by rw [GV])
     refine qF <| zB <| sM hS rfl fun hS => sO hS (Bu rfl rfl Tryd.runUnderlying136 Tryd.sizeOf3 Gx) rfl fun hS => sO hS (DB (xs := Gv) (g := (ci .i64)) (pre := []) (post := []) 0 rfl GD rfl (by simp) rfl (fun _ => rfl) (vY Gy Gx) rfl Tryd.isAgg3) rfl fun hS => sB hS rfl fun hS => sO hS (Bu rfl rfl Tryd.runUnderlying136 Tryd.sizeOf3 Gx) rfl fun hS => DG (xs := Gv) (g := (ci .i64)) (pre := []) (post := []) 0 ((qh ((rd Gv GK) + (1 : Int)))) hS rfl rfl GD rfl (by simp) rfl (fun _ => rfl) (vY Gy Gx) rfl Tryd.sizeOf3 (xF _) fun GM w Li hz GN hS => ?_
     have Lj : GM.length = 16 := by rw [hz, List.length_set]; exact Gy
     have hM := qC hz hM; clear hz
     replace GN : xZ Li GP (GM.flatMap (ci .i64)) 136 := by simpa using GN
     refine zc <| zr (qd ?_)
     refine zB <| sB hS rfl fun hS => sM hS rfl fun hS => zc <| qd ?_
     exact GS _ _ ⟨GM, Li, GL, Lo, (qh (GB + (1 : Int))), hS.to [0, 1] (by kernel_rfl) ⟨rfl, rfl, rfl, rfl, rfl, trivial⟩, Lj, GN, Lh, hM⟩
    ·refine wp_skip ?_
     refine zr (qd ?_)
     refine zB <| sB hS rfl fun hS => sM hS rfl fun hS => zc <| qd ?_
     exact GS _ _ ⟨Gv, GQ, Gw, GJ, (qh (GB + (1 : Int))), hS.to [0, 1] (by kernel_rfl) ⟨rfl, rfl, rfl, rfl, rfl, trivial⟩, Gy, GD, GE, hM⟩
   ·refine wp_exit ?_
    refine qB (qB (qY (qd ?_)))
    refine qp <| sM hS rfl fun hS => sA hS rfl fun hS => sA hS rfl fun hS => qF <| wp_ret ?_
    exact zm (rs := [2, 3]) hS rfl rfl (hret Gz GA Gw GJ (0 : Int) _ (qV hM) GE (hS.st.pick [1] (by kernel_rfl)))
theorem yS {H : xR} {F : List qq} {w : World} {R : Ending → World → Prop} {kr : (List Int) → Prop} {kp : Value → Prop} (hG : Gl H) (K : Nat) (Gu : List Int) (Gw : Option Addr) (Gx : Nat) (GB : jm H [] F (ci .i64) Gw Gu) (GC : Gu.length ≤ Gx)
    (hS : St w H [] F) (hm : (yg.m K Gu).wp kr kp)
    (hret : ∀ (GD : Option Addr) (GE : Nat) (Gv : (List Int)) (GF : qq) (w : World), kr Gv → (xa 3 (ci .i64) 1 GD Gv GE GF) → St w H [GF] F → R (.returned (.agg ⟨[.slice Gw Gu.length Gx, .slice GD Gv.length GE]⟩)) w) :
    Calls Tryd.prog 37 ⟨[.slice Gw Gu.length Gx]⟩ w R := by
 refine enter Tryd.func37 rfl Tryd.ntmps37 rfl hS fun a w hS => ?_
 have hM := hm; clear hm
 rw [yg.m] at hM
 refine qp <| Qs ([.slice none 0 0, .slice none 0 0]) hS Tryd.zeroValue47 rfl rfl fun w GP GJ GG hS => ?_
 obtain ⟨GK, GN, hS⟩ := hS.nilV 3 (ci .i64) 1
 obtain ⟨GL, GO, hS⟩ := hS.nilV 3 (ci .i64) 1
 refine qF <| qp <| sM hS rfl fun hS => qO hS rfl Tryd.call53 (YS hG K Gu Gw Gx (GB.app _) GC (hS.st.part 0 [0, 1, 2] (by kernel_rfl)) (qE hM) (fun Gy Gz GA GH GQ w hM GM hst => qL hS.ev hst.appF rfl fun hS => ?_))
 replace hS : Ss _ _ _ H [GH, GL, GK, GJ] F _ _ := hS
 refine sM hS rfl fun hS => sO hS (ex rfl rfl) rfl fun hS => sO hS (ex rfl rfl) rfl fun hS => sA hS rfl fun hS => sA hS rfl fun hS => qF <| qp <| sM hS rfl fun hS => sM hS rfl fun hS => sO hS (Zx ([.slice Gw Gu.length Gx, .slice Gy GA.length Gz]) [(0, 1), (1, 1)] Tryd.zeroValue47 Tryd.runUnderlying47 (by intro w; simp [Tryd.sizeOf45]) rfl rfl) rfl fun hS => uz 3 ([.slice Gw Gu.length Gx, .slice Gy GA.length Gz]) ([.slice Gw Gu.length Gx, .slice Gy GA.length Gz]) hS rfl rfl GG rfl rfl Tryd.sizeOf47 (by simp [Value.oneCell']) (Nat.le_of_ble_eq_true rfl) rfl fun w GR GI hS => qF <| wp_ret ?_
 exact yC (vs := [.agg ⟨[.slice Gw Gu.length Gx, .slice Gy GA.length Gz]⟩]) hS rfl (by exact ⟨YW 3 ([.slice Gw Gu.length Gx, .slice Gy GA.length Gz]) rfl GI rfl rfl rfl Tryd.isAgg47 Tryd.sizeOf47, trivial⟩) (hret Gy Gz GA GH _ (qV hM) GM (hS.st.pick [0] (by kernel_rfl)))
theorem u6 {H : xR} {F : List qq} {w : World} {R : Ending → World → Prop} {kr : ((List Int) × (List Int) × (List Int) × (List Int)) → Prop} {kp : Value → Prop} (hG : Gl H) (K : Nat)
    (hS : St w H [] F) (hm : (zp.m K).wp kr kp)
    (hret : ∀ (Lk : Option Addr) (Ll : Nat) (GA : (List Int)) (Lm : qq) (Ln : Option Addr) (Lo : Nat) (GF : (List Int)) (Lp : qq) (Lq : Option Addr) (Lr : Nat) (GB : (List Int)) (Lt : qq) (Lu : Option Addr) (Lv : Nat) (GG : (List Int)) (Lw : qq) (w : World), kr (GA, GF, GB, GG) → (xa 3 (ci .i64) 1 Lk GA Ll Lm) → (xa 3 (ci .i64) 1 Ln GF Lo Lp) → (xa 3 (ci .i64) 1 Lq GB Lr Lt) → (xa 3 (ci .i64) 1 Lu GG Lv Lw) → St w H [Lm, Lp, Lt, Lw] F → R (.returned (.tuple ⟨[.agg ⟨[.slice Lk GA.length Ll, .slice Ln GF.length Lo]⟩, .agg ⟨[.slice Lq GB.length Lr, .slice Lu GG.length Lv]⟩]⟩)) w) :
    Calls Tryd.prog 22 ⟨[]⟩ w R := by
 refine enter Tryd.func22 rfl Tryd.ntmps22 rfl hS fun a w hS => ?_
 have hM := hm; clear hm
 rw [zp.m] at hM
 refine qp <| Qs ([.slice none 0 0, .slice none 0 0]) hS Tryd.zeroValue47 rfl rfl fun w G7 GL Lx hS => ?_
 obtain ⟨GM, L1, hS⟩ := hS.nilV 3 (ci .i64) 1
 obtain ⟨GN, L3, hS⟩ := hS.nilV 3 (ci .i64) 1
 refine Qs ([.slice none 0 0, .slice none 0 0]) hS Tryd.zeroValue47 rfl rfl fun w G8 GO Ly hS => ?_
 obtain ⟨GP, L4, hS⟩ := hS.nilV 3 (ci .i64) 1
 obtain ⟨GQ, L5, hS⟩ := hS.nilV 3 (ci .i64) 1
 refine qF <| wp_seq <| zB ?_
 obtain ⟨Lz, hM⟩ := qH hM
 refine Ug (g := (ci .i64)) (m := (288 : Int)) (0 : Int) hS rfl rfl (by simp) Tryd.runUnderlying45 X.el3 (fun w => ⟨_, Tryd.zeroValue3 w, rfl⟩) (fun _ => rfl) rfl rfl Lz rfl fun GS w Gu Gv LT hz LA hS => ?_
 have hM := qC hz hM; clear hz
 refine sA hS rfl fun hS => qF <| zg (fun a w => ∃ (Gw : (List Int)) (GJ : qq), Ss 46 [] [(0, qS G7 0), (1, qS G8 0), (2, .slice Gu Gw.length Gv)] H [GL, GM, GN, GO, GP, GQ, GJ] F a w ∧ (xa 3 (ci .i64) 1 Gu Gw Gv GJ) ∧ (zp.j2 K Gw).wp kr kp) (fun L6 LB => ?_) ?_
 ·refine wp_seq ?_
  refine zB <| sM hS rfl fun hS => sO hS (xY rfl Tryd.runUnderlying45) rfl fun hS => sM hS rfl fun hS => qF <| xw <| zk (fun LC a w => ∃ (Gx : (List Int)) (G9 : qq) (GC : Int), Ss 46 [] [(0, qS G7 0), (1, qS G8 0), (2, .slice Gu Gx.length Gv), (8, .int .i64 (GS.length : Int)), (9, .int .i64 GC)] H [GL, GM, GN, GO, GP, GQ, G9] F a w ∧ (xa 3 (ci .i64) 1 Gu Gx Gv G9) ∧ (zp.l1 K GS LC Gx GC).wp kr kp) K ?_ ?_ ?_
  ·exact ⟨GS, LT, (0 : Int), hS.to [6, 5, 4, 3, 2, 1, 0] (by kernel_rfl) ⟨rfl, rfl, rfl, rfl, rfl, trivial⟩, LA, hM⟩
  ·intro a w hI; obtain ⟨_, _, _, _, _, hM⟩ := hI; exact zj hM
  ·intro LC a w hI L7 GT
   obtain ⟨Gx, G9, GC, hS, GH, hM⟩ := hI
   rw [zp.l1] at hM
   refine qp <| sB hS rfl fun hS => qF <| wp_seq <| qv hS rfl hM (fun LD hM => ?_) (fun LD hM => ?_)
   ·refine wp_skip ?_
    refine qd <| wp_seq <| xw <| qp <| sM hS rfl fun hS => sA hS rfl fun hS => qF <| xw <| qp <| sM hS rfl fun hS => sB hS rfl fun hS => sM hS rfl fun hS => yo 2 false 18 (b := (decide (GC < (144 : Int)))) (r := (decide (GC ≥ (280 : Int)))) hS rfl rfl rfl rfl rfl rfl rfl (fun hb a w hS K hK => ?_) rfl fun a w hS => ?_
    ·refine zL hS rfl rfl rfl hb (mv rfl) rfl fun a w hS => ?_
     refine zL hS rfl rfl rfl hb (yU rfl rfl rfl) rfl fun a w hS => ?_
     exact zc (hK _ _ (hS.up 2 rfl rfl))
    refine zz (v := Value.bool) (x0 := ((decide (GC < (144 : Int))) || (decide (GC ≥ (280 : Int))))) hS (xj rfl) rfl fun L8 a w hz hS => ?_
    have hM := qC hz hM; clear hz
    refine qF <| qv hS rfl hM (fun LE hM => ?_) (fun LE hM => ?_)
    ·refine zB ?_
     refine sM hS rfl fun hS => sM hS rfl fun hS => ?_
     obtain ⟨Lb, hM⟩ := qH hM
     refine sO hS (xM rfl rfl Tryd.runUnderlying45 Tryd.sizeOf3 (GH.rd (i := 6) rfl) (fun _ => rfl) rfl Lb) rfl fun hS => Xk (i := GC) (sz := 1) 6 0 ((8 : Int)) hS rfl rfl GH rfl Tryd.sizeOf3 (xF (8 : Int)) (fun _ => rfl) Lb rfl rfl fun GU w LU hz Lc LF hS => ?_
     have hM := qC hz hM; clear hz
     replace hS := hS.re 2 (u := .slice Gu Gx.length Gv) (v := .slice Gu GU.length Gv) rfl (by rw [Lc])
     replace hS := hS.re 22 (u := .slice Gu Gx.length Gv) (v := .slice Gu GU.length Gv) rfl (by rw [Lc])
     refine zc <| zr (zr (qd ?_))
     refine zB <| sB hS rfl fun hS => sM hS rfl fun hS => zc <| qd ?_
     exact GT _ _ ⟨GU, LU, (qh (GC + (1 : Int))), hS.to [0, 1, 2, 3, 4, 5, 6] (by kernel_rfl) ⟨rfl, rfl, rfl, rfl, rfl, trivial⟩, LF, hM⟩
    ·refine wp_seq ?_
     refine zB <| sM hS rfl fun hS => sB hS rfl fun hS => zz (v := Value.bool) (x0 := (decide (GC < (256 : Int)))) hS (xj rfl) rfl fun L9 a w hz hS => ?_
     have hM := qC hz hM; clear hz
     refine qF <| qv hS rfl hM (fun LG hM => ?_) (fun LG hM => ?_)
     ·refine zB ?_
      refine sM hS rfl fun hS => sM hS rfl fun hS => ?_
      obtain ⟨Ld, hM⟩ := qH hM
      refine sO hS (xM rfl rfl Tryd.runUnderlying45 Tryd.sizeOf3 (GH.rd (i := 6) rfl) (fun _ => rfl) rfl Ld) rfl fun hS => Xk (i := GC) (sz := 1) 6 0 ((9 : Int)) hS rfl rfl GH rfl Tryd.sizeOf3 (xF (9 : Int)) (fun _ => rfl) Ld rfl rfl fun GV w LV hz Le LH hS => ?_
      have hM := qC hz hM; clear hz
      replace hS := hS.re 2 (u := .slice Gu Gx.length Gv) (v := .slice Gu GV.length Gv) rfl (by rw [Le])
      replace hS := hS.re 28 (u := .slice Gu Gx.length Gv) (v := .slice Gu GV.length Gv) rfl (by rw [Le])
      refine zc <| zr (zr (qd ?_))
      refine zB <| sB hS rfl fun hS => sM hS rfl fun hS => zc <| qd ?_
      exact GT _ _ ⟨GV, LV, (qh (GC + (1 : Int))), hS.to [0, 1, 2, 3, 4, 5, 6] (by kernel_rfl) ⟨rfl, rfl, rfl, rfl, rfl, trivial⟩, LH, hM⟩
     ·refine zB ?_
      refine sM hS rfl fun hS => sM hS rfl fun hS => ?_
      obtain ⟨Lf, hM⟩ := qH hM
      refine sO hS (xM rfl rfl Tryd.runUnderlying45 Tryd.sizeOf3 (GH.rd (i := 6) rfl) (fun _ => rfl) rfl Lf) rfl fun hS => Xk (i := GC) (sz := 1) 6 0 ((7 : Int)) hS rfl rfl GH rfl Tryd.sizeOf3 (xF (7 : Int)) (fun _ => rfl) Lf rfl rfl fun GW w LW hz Lg LI hS => ?_
      have hM := qC hz hM; clear hz
      replace hS := hS.re 2 (u := .slice Gu Gx.length Gv) (v := .slice Gu GW.length Gv) rfl (by rw [Lg])
      replace hS := hS.re 12 (u := .slice Gu Gx.length Gv) (v := .slice Gu GW.length Gv) rfl (by rw [Lg])
      refine zc <| zr (zr (qd ?_))
      refine zB <| sB hS rfl fun hS => sM hS rfl fun hS => zc <| qd ?_
      exact GT _ _ ⟨GW, LW, (qh (GC + (1 : Int))), hS.to [0, 1, 2, 3, 4, 5, 6] (by kernel_rfl) ⟨rfl, rfl, rfl, rfl, rfl, trivial⟩, LI, hM⟩
   ·refine wp_exit ?_
    refine qB (qB (qY (qd ?_)))
    exact LB _ _ ⟨Gx, G9, hS.to [0, 1, 2, 3, 4, 5, 6] (by kernel_rfl) ⟨rfl, rfl, rfl, trivial⟩, GH, hM⟩
 ·intro a w hI
  obtain ⟨Gw, GJ, hS, GX, hM⟩ := hI
  rw [zp.j2] at hM
  refine wp_seq <| zB ?_
  obtain ⟨LJ, hM⟩ := qH hM
  refine Ug (g := (ci .i64)) (m := (32 : Int)) (0 : Int) hS rfl rfl (by simp) Tryd.runUnderlying45 X.el3 (fun w => ⟨_, Tryd.zeroValue3 w, rfl⟩) (fun _ => rfl) rfl rfl LJ rfl fun GY w GD GE LX hz LK hS => ?_
  have hM := qC hz hM; clear hz
  refine sA hS rfl fun hS => qF <| zg (fun a w => ∃ (GI : (List Int)) (GR : qq), Ss 46 [] [(0, qS G7 0), (1, qS G8 0), (2, .slice Gu Gw.length Gv), (4, .slice GD GI.length GE)] H [GL, GM, GN, GO, GP, GQ, GJ, GR] F a w ∧ (xa 3 (ci .i64) 1 GD GI GE GR) ∧ (zp.j4 K Gw GI).wp kr kp) (fun Ma LL => ?_) ?_
  ·refine wp_seq ?_
   refine zB <| sM hS rfl fun hS => sO hS (xY rfl Tryd.runUnderlying45) rfl fun hS => sM hS rfl fun hS => qF <| xw <| zk (fun LM a w => ∃ (GK : (List Int)) (La : qq) (GZ : Int), Ss 46 [] [(0, qS G7 0), (1, qS G8 0), (2, .slice Gu Gw.length Gv), (4, .slice GD GK.length GE), (34, .int .i64 (GY.length : Int)), (35, .int .i64 GZ)] H [GL, GM, GN, GO, GP, GQ, GJ, La] F a w ∧ (xa 3 (ci .i64) 1 GD GK GE La) ∧ (zp.l3 K Gw GY LM GK GZ).wp kr kp) K ?_ ?_ ?_
   ·exact ⟨GY, LX, (0 : Int), hS.to [1, 2, 3, 4, 5, 6, 7, 0] (by kernel_rfl) ⟨rfl, rfl, rfl, rfl, rfl, rfl, trivial⟩, LK, hM⟩
   ·intro a w hI; obtain ⟨_, _, _, _, _, hM⟩ := hI; exact zj hM
   ·intro LM a w hI Mb LN
    obtain ⟨GK, La, GZ, hS, G0, hM⟩ := hI
    rw [zp.l3] at hM
    refine qp <| sB hS rfl fun hS => qF <| wp_seq <| qv hS rfl hM (fun LO hM => ?_) (fun LO hM => ?_)
    ·refine wp_skip ?_
     refine qd <| wp_seq <| xw <| qp <| sM hS rfl fun hS => sA hS rfl fun hS => qF <| zB <| sM hS rfl fun hS => sM hS rfl fun hS => ?_
     obtain ⟨Lh, hM⟩ := qH hM
     refine sO hS (xM rfl rfl Tryd.runUnderlying45 Tryd.sizeOf3 (G0.rd (i := 7) rfl) (fun _ => rfl) rfl Lh) rfl fun hS => Xk (i := GZ) (sz := 1) 7 0 ((5 : Int)) hS rfl rfl G0 rfl Tryd.sizeOf3 (xF (5 : Int)) (fun _ => rfl) Lh rfl rfl fun G1 w LY hz Li LP hS => ?_
     have hM := qC hz hM; clear hz
     replace hS := hS.re 4 (u := .slice GD GK.length GE) (v := .slice GD G1.length GE) rfl (by rw [Li])
     replace hS := hS.re 38 (u := .slice GD GK.length GE) (v := .slice GD G1.length GE) rfl (by rw [Li])
     refine zc <| zr (qd ?_)
     refine zB <| sB hS rfl fun hS => sM hS rfl fun hS => zc <| qd ?_
     exact LN _ _ ⟨G1, LY, (qh (GZ + (1 : Int))), hS.to [0, 1, 2, 3, 4, 5, 6, 7] (by kernel_rfl) ⟨rfl, rfl, rfl, rfl, rfl, rfl, trivial⟩, LP, hM⟩
    ·refine wp_exit ?_
     refine qB (qB (qY (qd ?_)))
     exact LL _ _ ⟨GK, La, hS.to [0, 1, 2, 3, 4, 5, 6, 7] (by kernel_rfl) ⟨rfl, rfl, rfl, rfl, trivial⟩, G0, hM⟩
  ·intro a w hI
   obtain ⟨GI, GR, hS, G2, hM⟩ := hI
   rw [zp.j4] at hM
   refine qp <| sM hS rfl fun hS => qO hS rfl Tryd.call37 (yS hG K Gw Gu Gv (GX.rdF (i := 6) rfl) (GX.cap (fun _ => rfl) rfl) (hS.st.part 0 [0, 1, 2, 3, 4, 5, 6, 7] (by kernel_rfl)) (qE hM) (fun G3 G4 Gy Lj w hM LZ hst => qL hS.ev hst.appF rfl fun hS => ?_))
   replace hS : Ss _ _ _ H [Lj, GL, GM, GN, GO, GP, GQ, GJ, GR] F _ _ := hS
   refine sM hS rfl fun hS => qO hS rfl Tryd.call37 (yS hG K GI GD GE (G2.rdF (i := 8) rfl) (G2.cap (fun _ => rfl) rfl) (hS.st.part 0 [0, 1, 2, 3, 4, 5, 6, 7, 8] (by kernel_rfl)) (qE hM) (fun G5 G6 Gz LQ w hM L0 hst => qL hS.ev hst.appF rfl fun hS => ?_))
   replace hS : Ss _ _ _ H [LQ, Lj, GL, GM, GN, GO, GP, GQ, GJ, GR] F _ _ := hS
   refine uz 2 ([.slice Gu Gw.length Gv, .slice G3 Gy.length G4]) ([.slice Gu Gw.length Gv, .slice G3 Gy.length G4]) hS rfl rfl Lx rfl rfl Tryd.sizeOf47 (by simp [Value.oneCell']) (Nat.le_of_ble_eq_true rfl) rfl fun w Mc LR hS => uz 5 ([.slice GD GI.length GE, .slice G5 Gz.length G6]) ([.slice GD GI.length GE, .slice G5 Gz.length G6]) hS rfl rfl Ly rfl rfl Tryd.sizeOf47 (by simp [Value.oneCell']) (Nat.le_of_ble_eq_true rfl) rfl fun w Md LS hS => qF <| wp_ret ?_
   exact yC (vs := [.agg ⟨[.slice Gu Gw.length Gv, .slice G3 Gy.length G4]⟩, .agg ⟨[.slice GD GI.length GE, .slice G5 Gz.length G6]⟩]) hS rfl (by exact ⟨YW 2 ([.slice Gu Gw.length Gv, .slice G3 Gy.length G4]) rfl LR rfl rfl rfl Tryd.isAgg47 Tryd.sizeOf47, YW 5 ([.slice GD GI.length GE, .slice G5 Gz.length G6]) rfl LS rfl rfl rfl Tryd.isAgg47 Tryd.sizeOf47, trivial⟩) (hret Gu Gv Gw GJ G3 G4 Gy Lj GD GE GI GR G5 G6 Gz LQ _ (qV hM) GX LZ G2 L0 (hS.st.pick [8, 1, 9, 0] (by kernel_rfl)))
theorem zo {H : xR} {F : List qq} {w : World} {R : Ending → World → Prop} {kr : (Int × Int × (List Int)) → Prop} {kp : Value → Prop} (hG : Gl H) (K : Nat) (Gv : qt) (G3 : Int) (GD : Int) (Gy : Nat) (G4 : qq) (G5 : Option Addr) (G6 : Nat) (G7 : qq) (GF : Option Addr) (GG : Nat) (GS : qq) (GH : Option Addr) (GI : Nat) (GT : qq) (GJ : Option Addr) (GK : Nat) (GU : qq) (GL : Option Addr) (GM : Nat) (GV : qq) (G9 : xZ G4 Gy ([.int .i64 Gv.Writer_.place_.at_, .slice G5 Gv.Writer_.bytes_.length G6, .slice GF Gv.literals_.lengths_.length GG, .slice GH Gv.literals_.codes_.length GI, .slice GJ Gv.distances_.lengths_.length GK, .slice GL Gv.distances_.codes_.length GM]) 49) (La : xa 5 (ci .u8) 1 G5 Gv.Writer_.bytes_ G6 G7) (LJ : xa 3 (ci .i64) 1 GF Gv.literals_.lengths_ GG GS) (LK : xa 3 (ci .i64) 1 GH Gv.literals_.codes_ GI GT) (LL : xa 3 (ci .i64) 1 GJ Gv.distances_.lengths_ GK GU) (LM : xa 3 (ci .i64) 1 GL Gv.distances_.codes_ GM GV)
    (hS : St w H [G4, G7, GS, GT, GU, GV] F) (hm : (qs.m K Gv G3 GD).wp kr kp)
    (hret : ∀ (Lh : Int) (GW : Int) (Li : Option Addr) (Lj : Nat) (GE : (List Int)) (Lk : qq) (Ll : qq) (w : World), kr (Lh, GW, GE) → (xa 5 (ci .u8) 1 Li GE Lj Lk) → (xZ Ll Gy ([.int .i64 GW, .slice Li GE.length Lj, .slice GF Gv.literals_.lengths_.length GG, .slice GH Gv.literals_.codes_.length GI, .slice GJ Gv.distances_.lengths_.length GK, .slice GL Gv.distances_.codes_.length GM]) 49) → St w H [Ll, Lk, GS, GT, GU, GV] F → R (.returned (.int .i64 Lh)) w) :
    Calls Tryd.prog 23 ⟨[qS Gy 0, .int .u32 G3, .int .i64 GD]⟩ w R := by
 refine enter Tryd.func23 rfl Tryd.ntmps23 rfl hS fun a w hS => ?_
 have hM := hm; clear hm
 rw [qs.m] at hM
 refine qp <| sA hS rfl fun hS => qF <| wp_seq <| qp <| sM hS rfl fun hS => sO hS (By rfl rfl Tryd.runUnderlying103) rfl fun hS => sM hS rfl fun hS => zL hS rfl rfl rfl rfl (mv rfl) rfl fun a w hS => zL hS rfl rfl rfl rfl (yU rfl rfl rfl) rfl fun a w hS => sO hS (pk rfl rfl rfl) rfl fun hS => sM hS rfl fun hS => yo 2 false 14 (b := (decide (GD < (0 : Int)))) (r := (decide (GD > (32 : Int)))) hS rfl rfl rfl rfl rfl rfl rfl (fun hb a w hS K hK => ?_) rfl fun a w hS => ?_
 ·refine zL hS rfl rfl rfl hb (mv rfl) rfl fun a w hS => ?_
  refine zL hS rfl rfl rfl hb (yU rfl rfl rfl) rfl fun a w hS => ?_
  exact zc (hK _ _ (hS.up 2 rfl rfl))
 refine sM hS rfl fun hS => ?_
 obtain ⟨Lm, hM⟩ := qH hM
 refine yo 5 false 18 (b := ((decide (GD < (0 : Int))) || (decide (GD > (32 : Int))))) (r := (decide ((xC .u64 (wr .u64 G3) GD) > (0 : Int)))) hS rfl rfl rfl rfl rfl rfl rfl (fun hb a w hS K hK => ?_) rfl fun a w hS => ?_
 ·refine zL hS rfl rfl rfl hb (mv rfl) rfl fun a w hS => ?_
  refine zL hS rfl rfl rfl hb (vZ rfl Tryd.runUnderlying53 Tryd.runUnderlying104) rfl fun a w hS => zL hS rfl rfl rfl hb (mv rfl) rfl fun a w hS => ?_
  have Ln := Yp Lm hb
  refine zL hS rfl rfl rfl hb (shr rfl rfl Ln) rfl fun a w hS => zL hS rfl rfl rfl hb (yU rfl rfl rfl) rfl fun a w hS => ?_
  exact zc (hK _ _ (hS.up 5 rfl rfl))
 refine qF <| qv hS rfl hM (fun Lo hM => ?_) (fun Lo hM => ?_)
 ·refine wp_seq ?_
  refine zB <| sA hS rfl fun hS => qF <| wp_ret <| qz ?_
  exact zm (rs := [6]) hS rfl rfl (hret (1 : Int) Gv.Writer_.place_.at_ G5 G6 Gv.Writer_.bytes_ G7 G4 _ (qV hM) La G9 (hS.st.pick [0, 1, 2, 3, 4, 5] (by kernel_rfl)))
 ·refine wp_skip ?_
  refine qd <| wp_seq <| xw <| zk (fun Lf a w => ∃ (Gu : Int) (GX : Option Addr) (GY : Nat) (Gz : (List Int)) (GZ : qq) (G0 : qq) (GA : Int) (GB : Int), Ss 95 [] [(0, qS Gy 0), (1, .int .u32 GA), (2, .int .i64 GB)] H [G0, GZ, GS, GT, GU, GV] F a w ∧ (xa 5 (ci .u8) 1 GX Gz GY GZ) ∧ (xZ G0 Gy ([.int .i64 Gu, .slice GX Gz.length GY, .slice GF Gv.literals_.lengths_.length GG, .slice GH Gv.literals_.codes_.length GI, .slice GJ Gv.distances_.lengths_.length GK, .slice GL Gv.distances_.codes_.length GM]) 49) ∧ (qs.l1 K Lf Gu Gz GA GB).wp kr kp) K ?_ ?_ ?_
  ·exact ⟨Gv.Writer_.place_.at_, G5, G6, Gv.Writer_.bytes_, G7, G4, G3, GD, hS.to [0, 1, 2, 3, 4, 5] (by kernel_rfl) ⟨rfl, rfl, rfl, trivial⟩, La, G9, hM⟩
  ·intro a w hI; obtain ⟨_, _, _, _, _, _, _, _, _, _, _, hM⟩ := hI; exact zj hM
  ·intro Lf a w hI LN Lp
   obtain ⟨Gu, GX, GY, Gz, GZ, G0, GA, GB, hS, G1, GN, hM⟩ := hI
   rw [qs.l1] at hM
   refine wp_seq <| qp <| sM hS rfl fun hS => sB hS rfl fun hS => qF <| qv hS rfl hM (fun Lq hM => ?_) (fun Lq hM => ?_)
   ·refine wp_skip ?_
    refine qd <| xw <| zg (fun a w => ∃ (GC : Option Addr) (GO : Nat) (Gx : (List Int)) (Lg : qq) (G8 : qq), Ss 95 [] [(0, qS Gy 0), (1, .int .u32 GA), (2, .int .i64 GB)] H [G8, Lg, GS, GT, GU, GV] F a w ∧ (xa 5 (ci .u8) 1 GC Gx GO Lg) ∧ (xZ G8 Gy ([.int .i64 Gu, .slice GC Gx.length GO, .slice GF Gv.literals_.lengths_.length GG, .slice GH Gv.literals_.codes_.length GI, .slice GJ Gv.distances_.lengths_.length GK, .slice GL Gv.distances_.codes_.length GM]) 49) ∧ (qs.j2 K (qs.l1 K Lf) Gu GA GB Gx).wp kr kp) (fun LO Lb => ?_) ?_
    ·refine wp_seq ?_
     refine zB <| sM hS rfl fun hS => sO hS (yx rfl) rfl fun hS => sO hS (xu rfl Tryd.runUnderlying44 rfl Tryd.sizeOf42 rfl) rfl fun hS => sO hS (xu rfl Tryd.runUnderlying42 rfl Tryd.sizeOf3 rfl) rfl fun hS => sO hS (xW 0 rfl GN rfl rfl Tryd.isAgg3) rfl fun hS => sB hS rfl fun hS => sB hS rfl fun hS => qF <| qv hS rfl hM (fun Lr hM => ?_) (fun Lr hM => ?_)
     ·refine zB ?_
      refine sM hS rfl fun hS => sM hS rfl fun hS => sO hS (yx rfl) rfl fun hS => sO hS (xu rfl Tryd.runUnderlying44 rfl Tryd.sizeOf38 rfl) rfl fun hS => sO hS (xW 0 rfl GN rfl rfl Tryd.isAgg38) rfl fun hS => Xz (g := (ci .u8)) ([(0 : Int)] : List Int) [.int .u8 (0 : Int)] hS Tryd.runUnderlying38 Tryd.sizeOf5 X.el5 rfl rfl rfl (by simp [Value.cells]) rfl rfl rfl rfl rfl fun w LP LQ LR Lt hS => ?_
      obtain ⟨Lu, hM⟩ := qH hM
      refine X9 (ys := ([(0 : Int)] : List Int)) 2 hS rfl rfl G1 rfl (Lt.rd (i := 0) rfl) Tryd.runUnderlying38 Tryd.runUnderlying38 X.el5 (fun _ => rfl) rfl uy Lu rfl fun Lc w Lv Lw LE hz Lx hS => ?_
      have hM := qC hz hM; clear hz
      refine sO hS (yx rfl) rfl fun hS => sO hS (xu rfl Tryd.runUnderlying44 rfl Tryd.sizeOf38 rfl) rfl fun hS => Uk 1 ([.int .i64 Gu, .slice Lv Lc.length Lw, .slice GF Gv.literals_.lengths_.length GG, .slice GH Gv.literals_.codes_.length GI, .slice GJ Gv.distances_.lengths_.length GK, .slice GL Gv.distances_.codes_.length GM]) hS rfl rfl GN rfl rfl rfl rfl Tryd.sizeOf38 fun w LF Ly hS => zc <| qd ?_
      exact Lb _ _ ⟨Lv, Lw, Lc, LE, LF, hS.to [1, 2, 3, 4, 5, 6] (by kernel_rfl) ⟨rfl, rfl, rfl, trivial⟩, Lx, Ly, hM⟩
     ·refine wp_skip ?_
      refine qd ?_
      exact Lb _ _ ⟨GX, GY, Gz, GZ, G0, hS.to [0, 1, 2, 3, 4, 5] (by kernel_rfl) ⟨rfl, rfl, rfl, trivial⟩, G1, GN, hM⟩
    ·intro a w hI
     obtain ⟨GC, GO, Gx, Lg, G8, hS, GQ, GP, hM⟩ := hI
     rw [qs.j2] at hM
     refine qp <| sM hS rfl fun hS => sO hS (yx rfl) rfl fun hS => sO hS (xu rfl Tryd.runUnderlying44 rfl Tryd.sizeOf42 rfl) rfl fun hS => sO hS (xu rfl Tryd.runUnderlying42 rfl Tryd.sizeOf3 rfl) rfl fun hS => sO hS (xW 0 rfl GP rfl rfl Tryd.isAgg3) rfl fun hS => sB hS rfl fun hS => sB hS rfl fun hS => sM hS rfl fun hS => sO hS (V7 rfl rfl) rfl fun hS => zz (v := Value.int .i64) (x0 := (if GB < (qh ((8 : Int) - (x8 .i64 Gu (7 : Int)))) then GB else (qh ((8 : Int) - (x8 .i64 Gu (7 : Int)))))) hS (xj rfl) rfl fun Gw a w hz hS => ?_
     have hM := qC hz hM; clear hz
     refine qF <| wp_seq ?_
     obtain ⟨GR, hM⟩ := qH hM
     obtain ⟨Ld, hM⟩ := qH hM
     obtain ⟨Lz, hM⟩ := qH hM
     refine za (vals := [some (qS Gy 0), some (qS Gy 0), some (qS Gy 1), some (.slice GC Gx.length GO), some (qS Gy 0), some (qS Gy 0), some (qS Gy 0), some (qS Gy 0), some (.int .i64 Gu), some (.int .i64 (yY .i64 Gu (8 : Int))), some (xc GC (Int.toNat (yY .i64 Gu (8 : Int)) * 1)), some (.int .u8 (rd Gx (yY .i64 Gu (8 : Int)))), some (.int .u32 GA), some (.int .i64 Gw), some (.int .u32 (xz .u32 (1 : Int) Gw)), some (.int .u32 (wr .u32 ((xz .u32 (1 : Int) Gw) - (1 : Int)))), some (.int .u32 (x8 .u32 GA (wr .u32 ((xz .u32 (1 : Int) Gw) - (1 : Int))))), some (.int .u8 (wr .u8 (x8 .u32 GA (wr .u32 ((xz .u32 (1 : Int) Gw) - (1 : Int)))))), some (qS Gy 0), some (qS Gy 0), some (qS Gy 0), some (qS Gy 0), some (.int .i64 Gu), some (.int .i64 (x8 .i64 Gu (7 : Int))), some (.int .u8 (xz .u8 (wr .u8 (x8 .u32 GA (wr .u32 ((xz .u32 (1 : Int) Gw) - (1 : Int))))) (x8 .i64 Gu (7 : Int)))), some (.int .u8 (Bh .u8 (rd Gx (yY .i64 Gu (8 : Int))) (xz .u8 (wr .u8 (x8 .u32 GA (wr .u32 ((xz .u32 (1 : Int) Gw) - (1 : Int))))) (x8 .i64 Gu (7 : Int))))), some (xc GC (Int.toNat (yY .i64 Gu (8 : Int)) * 1)), none]) hS xp rfl ?_
     intro l w ho hcl hA hst
     refine jn hA hst ho hcl xv xo 27 [0, 1, 2, 3, 4, 5, 6, 7, 8, 9, 10, 11, 12, 13, 14, 15, 16, 17, 18, 19, 20, 21, 22, 23, 24, 25, 26] rfl rfl rfl rfl rfl (by exact ⟨nM rfl, nQ rfl (by exact qU (yx rfl) rfl), nQ rfl (by exact qU (xu rfl Tryd.runUnderlying44 rfl Tryd.sizeOf38 rfl) rfl), nQ rfl (by exact qU (xW 0 rfl GP rfl rfl Tryd.isAgg38) rfl), nM rfl, nQ rfl (by exact qU (yx rfl) rfl), nQ rfl (by exact qU (xu rfl Tryd.runUnderlying44 rfl Tryd.sizeOf42 rfl) rfl), nQ rfl (by exact qU (xu rfl Tryd.runUnderlying42 rfl Tryd.sizeOf3 rfl) rfl), nQ rfl (by exact qU (xW 0 rfl GP rfl rfl Tryd.isAgg3) rfl), nQ rfl (by exact qU (quo rfl rfl rfl) rfl), nQ rfl (by exact qU (xM rfl rfl Tryd.runUnderlying38 Tryd.sizeOf5 (GQ.rd (i := 1) rfl) (fun _ => rfl) rfl GR) rfl), nQ rfl (by exact qU (yd rfl (GQ.rd (i := 1) rfl) (fun _ => rfl) GR rfl Tryd.isAgg5) rfl), nM rfl, nM rfl, nQ rfl (by exact qU (shl rfl rfl Ld) rfl), nB rfl, nB rfl, nQ rfl (by exact qU (vZ rfl Tryd.runUnderlying53 Tryd.runUnderlying5) rfl), nM rfl, nQ rfl (by exact qU (yx rfl) rfl), nQ rfl (by exact qU (xu rfl Tryd.runUnderlying44 rfl Tryd.sizeOf42 rfl) rfl), nQ rfl (by exact qU (xu rfl Tryd.runUnderlying42 rfl Tryd.sizeOf3 rfl) rfl), nQ rfl (by exact qU (xW 0 rfl GP rfl rfl Tryd.isAgg3) rfl), nB rfl, nQ rfl (by exact qU (shl rfl rfl Lz) rfl), nB rfl, nQ rfl (by exact qU (xM rfl rfl Tryd.runUnderlying38 Tryd.sizeOf5 (GQ.rd (i := 1) rfl) (fun _ => rfl) rfl GR) rfl), trivial⟩) fun D l a w ho hcl hav hpre hm hE hk hA hst => ?_
     have hS := (Ss.mk hE hst).env2 (e' := [(77, .int .u8 (Bh .u8 (rd Gx (yY .i64 Gu (8 : Int))) (xz .u8 (wr .u8 (x8 .u32 GA (wr .u32 ((xz .u32 (1 : Int) Gw) - (1 : Int))))) (x8 .i64 Gu (7 : Int))))), (78, xc GC (Int.toNat (yY .i64 Gu (8 : Int)) * 1))]) ⟨rfl, rfl, trivial⟩
     refine q7 rfl <| Xk (i := (yY .i64 Gu (8 : Int))) (sz := 1) 1 0 ((Bh .u8 (rd Gx (yY .i64 Gu (8 : Int))) (xz .u8 (wr .u8 (x8 .u32 GA (wr .u32 ((xz .u32 (1 : Int) Gw) - (1 : Int))))) (x8 .i64 Gu (7 : Int))))) hS rfl rfl GQ rfl Tryd.sizeOf5 (uy (Bh .u8 (rd Gx (yY .i64 Gu (8 : Int))) (xz .u8 (wr .u8 (x8 .u32 GA (wr .u32 ((xz .u32 (1 : Int) Gw) - (1 : Int))))) (x8 .i64 Gu (7 : Int))))) (fun _ => rfl) GR rfl rfl fun G2 w LG hz LA LB hS => ?_
     have hM := qC hz hM; clear hz
     have Le : xZ G8 Gy ([.int .i64 Gu, .slice GC G2.length GO, .slice GF Gv.literals_.lengths_.length GG, .slice GH Gv.literals_.codes_.length GI, .slice GJ Gv.distances_.lengths_.length GK, .slice GL Gv.distances_.codes_.length GM]) 49 := by rw [LA]; exact GP
     refine qF ?_
     replace hst := hS.st
     obtain ⟨hcl, hmust, hav2, hA⟩ := ZV (vals' := [some (qS Gy 0), some (qS Gy 0), some (qS Gy 1), some (.slice GC Gx.length GO), some (qS Gy 0), some (qS Gy 0), some (qS Gy 0), some (qS Gy 0), some (.int .i64 Gu), some (.int .i64 (yY .i64 Gu (8 : Int))), some (xc GC (Int.toNat (yY .i64 Gu (8 : Int)) * 1)), some (.int .u8 (rd Gx (yY .i64 Gu (8 : Int)))), some (.int .u32 GA), some (.int .i64 Gw), some (.int .u32 (xz .u32 (1 : Int) Gw)), some (.int .u32 (wr .u32 ((xz .u32 (1 : Int) Gw) - (1 : Int)))), some (.int .u32 (x8 .u32 GA (wr .u32 ((xz .u32 (1 : Int) Gw) - (1 : Int))))), some (.int .u8 (wr .u8 (x8 .u32 GA (wr .u32 ((xz .u32 (1 : Int) Gw) - (1 : Int)))))), some (qS Gy 0), some (qS Gy 0), some (qS Gy 0), some (qS Gy 0), some (.int .i64 Gu), some (.int .i64 (x8 .i64 Gu (7 : Int))), some (.int .u8 (xz .u8 (wr .u8 (x8 .u32 GA (wr .u32 ((xz .u32 (1 : Int) Gw) - (1 : Int))))) (x8 .i64 Gu (7 : Int)))), some (.int .u8 (Bh .u8 (rd Gx (yY .i64 Gu (8 : Int))) (xz .u8 (wr .u8 (x8 .u32 GA (wr .u32 ((xz .u32 (1 : Int) Gw) - (1 : Int))))) (x8 .i64 Gu (7 : Int))))), some (xc GC (Int.toNat (yY .i64 Gu (8 : Int)) * 1)), some undef]) 27 [(0, 27), (1, 27), (2, 27), (3, 27), (4, 27), (5, 27), (6, 27), (7, 27), (8, 27), (9, 27), (10, 27), (11, 27), (12, 27), (13, 27), (14, 27), (15, 27), (16, 27), (17, 27), (18, 27), (19, 27), (20, 27), (21, 27), (22, 27), (23, 27), (24, 27), (25, 27), (26, 27)] hA hcl hav hm hpre rfl rfl rfl rfl rfl
     clear hm hav
     refine x3 hA hst ho hcl hmust [] rfl rfl rfl trivial fun a w hS => ?_
     replace hS := hS.env2 (e' := [(0, qS Gy 0), (1, .int .u32 GA), (2, .int .i64 GB), (7, .int .i64 Gw)]) ⟨rfl, rfl, rfl, rfl, trivial⟩
     refine qd <| qp <| sM hS rfl fun hS => sM hS rfl fun hS => sO hS (shr rfl rfl Ld) rfl fun hS => zz (v := Value.int .u32) (x0 := (xC .u32 GA Gw)) hS (xj rfl) rfl fun LH a w hz hS => ?_
     have hM := qC hz hM; clear hz
     refine qF <| qp <| sM hS rfl fun hS => sO hS (yx rfl) rfl fun hS => sO hS (xu rfl Tryd.runUnderlying44 rfl Tryd.sizeOf42 rfl) rfl fun hS => sO hS (xu rfl Tryd.runUnderlying42 rfl Tryd.sizeOf3 rfl) rfl fun hS => sO hS (xW 0 rfl Le rfl rfl Tryd.isAgg3) rfl fun hS => sM hS rfl fun hS => sB hS rfl fun hS => sO hS (yx rfl) rfl fun hS => sO hS (xu rfl Tryd.runUnderlying44 rfl Tryd.sizeOf42 rfl) rfl fun hS => sO hS (xu rfl Tryd.runUnderlying42 rfl Tryd.sizeOf3 rfl) rfl fun hS => Uk 0 ([.int .i64 (qh (Gu + Gw)), .slice GC G2.length GO, .slice GF Gv.literals_.lengths_.length GG, .slice GH Gv.literals_.codes_.length GI, .slice GJ Gv.distances_.lengths_.length GK, .slice GL Gv.distances_.codes_.length GM]) hS rfl rfl Le rfl rfl rfl rfl Tryd.sizeOf3 fun w LI LC hS => qF <| zB <| sM hS rfl fun hS => sM hS rfl fun hS => sB hS rfl fun hS => zz (v := Value.int .i64) (x0 := (qh (GB - Gw))) hS (xj rfl) rfl fun LD a w hz hS => ?_
     have hM := qC hz hM; clear hz
     refine zc <| zr (qd ?_)
     exact Lp _ _ ⟨(qh (Gu + Gw)), GC, GO, G2, LG, LI, LH, LD, hS.to [0, 1, 2, 3, 4, 5] (by kernel_rfl) ⟨rfl, rfl, rfl, trivial⟩, LB, LC, hM⟩
   ·refine wp_exit ?_
    refine qB (qB (qY (qd ?_)))
    refine qp <| sA hS rfl fun hS => qF <| wp_ret ?_
    exact zm (rs := [6]) hS rfl rfl (hret (0 : Int) Gu GX GY Gz GZ G0 _ (qV hM) G1 GN (hS.st.pick [0, 1, 2, 3, 4, 5] (by kernel_rfl)))
theorem yl {H : xR} {F : List qq} {w : World} {R : Ending → World → Prop} {kr : (Int × (List Int)) → Prop} {kp : Value → Prop} (hG : Gl H) (K : Nat) (Gu : qt) (G6 : qx) (Gv : Int) (Gy : Nat) (G1 : qq) (G2 : Option Addr) (G3 : Nat) (G4 : qq) (GD : Option Addr) (GE : Nat) (GF : qq) (Gz : Option Addr) (GC : Nat) (GG : qq) (GJ : Option Addr) (GK : Nat) (GH : qq) (GL : Option Addr) (GM : Nat) (GI : qq) (G7 : xZ G1 Gy ([.int .i64 Gu.Writer_.place_.at_, .slice G2 Gu.Writer_.bytes_.length G3, .slice GD Gu.literals_.lengths_.length GE, .slice Gz Gu.literals_.codes_.length GC, .slice GJ Gu.distances_.lengths_.length GK, .slice GL Gu.distances_.codes_.length GM]) 49) (G8 : xa 5 (ci .u8) 1 G2 Gu.Writer_.bytes_ G3 G4) (GN : xa 3 (ci .i64) 1 GD Gu.literals_.lengths_ GE GF) (GO : xa 3 (ci .i64) 1 Gz Gu.literals_.codes_ GC GG) (G9 : xa 3 (ci .i64) 1 GJ Gu.distances_.lengths_ GK GH) (La : xa 3 (ci .i64) 1 GL Gu.distances_.codes_ GM GI)
    (hS : St w H [G1, G4, GF, GG, GH, GI] F) (hm : (zQ.m K Gu G6 Gv).wp kr kp)
    (hret : ∀ (GP : Int) (Lb : Option Addr) (Lc : Nat) (GA : (List Int)) (Ld : qq) (Le : qq) (w : World), kr (GP, GA) → (xa 5 (ci .u8) 1 Lb GA Lc Ld) → (xZ Le Gy ([.int .i64 GP, .slice Lb GA.length Lc, .slice GD Gu.literals_.lengths_.length GE, .slice Gz Gu.literals_.codes_.length GC, .slice GJ Gu.distances_.lengths_.length GK, .slice GL Gu.distances_.codes_.length GM]) 49) → St w H [Le, Ld, GF, GG, GH, GI] F → R (.returned (.tuple ⟨[]⟩)) w) :
    Calls Tryd.prog 41 ⟨[qS Gy 0, .agg ⟨[.slice GD Gu.literals_.lengths_.length GE, .slice Gz Gu.literals_.codes_.length GC]⟩, .int .i64 Gv]⟩ w R := by
 refine enter Tryd.func41 rfl Tryd.ntmps41 rfl hS fun a w hS => ?_
 have hM := hm; clear hm
 rw [zQ.m] at hM
 refine qp <| bx ([.slice GD Gu.literals_.lengths_.length GE, .slice Gz Gu.literals_.codes_.length GC]) hS rfl rfl rfl fun w GV Lf GW hS => qF <| qp <| sO hS (xu rfl Tryd.runUnderlying47 rfl Tryd.sizeOf45 rfl) rfl fun hS => sO hS (xW 0 rfl GW rfl rfl Tryd.isAgg45) rfl fun hS => sM hS rfl fun hS => ?_
 obtain ⟨GX, hM⟩ := qH hM
 refine sO hS (xM rfl rfl Tryd.runUnderlying45 Tryd.sizeOf3 (GN.rd (i := 3) rfl) (fun _ => rfl) rfl GX) rfl fun hS => sO hS (yd rfl (GN.rd (i := 3) rfl) (fun _ => rfl) GX rfl Tryd.isAgg3) rfl fun hS => sB hS rfl fun hS => zz (v := Value.int .i64) (x0 := (qh ((rd Gu.literals_.lengths_ Gv) - (1 : Int)))) hS (xj rfl) rfl fun Lm a w hz hS => ?_
 have hM := qC hz hM; clear hz
 refine qF <| xw <| zk (fun Lg a w => ∃ (GB : Int) (GQ : Option Addr) (GR : Nat) (Gw : (List Int)) (GS : qq) (GT : qq) (Gx : Int), Ss 30 [] [(0, qS Gy 0), (2, .int .i64 Gv), (4, qS GV 0), (6, .int .i64 Gx)] H [GT, GS, GF, GG, GH, GI, Lf] F a w ∧ (xa 5 (ci .u8) 1 GQ Gw GR GS) ∧ (xZ GT Gy ([.int .i64 GB, .slice GQ Gw.length GR, .slice GD Gu.literals_.lengths_.length GE, .slice Gz Gu.literals_.codes_.length GC, .slice GJ Gu.distances_.lengths_.length GK, .slice GL Gu.distances_.codes_.length GM]) 49) ∧ (zQ.l1 K Gu Gv Lg GB Gw Gx).wp kr kp) K ?_ ?_ ?_
 ·exact ⟨Gu.Writer_.place_.at_, G2, G3, Gu.Writer_.bytes_, G4, G1, Lm, hS.to [1, 2, 3, 4, 5, 6, 0] (by kernel_rfl) ⟨rfl, rfl, rfl, rfl, trivial⟩, G8, G7, hM⟩
 ·intro a w hI; obtain ⟨_, _, _, _, _, _, _, _, _, _, hM⟩ := hI; exact zj hM
 ·intro Lg a w hI Lu Lh
  obtain ⟨GB, GQ, GR, Gw, GS, GT, Gx, hS, GY, GZ, hM⟩ := hI
  rw [zQ.l1] at hM
  refine wp_seq <| qp <| sM hS rfl fun hS => sB hS rfl fun hS => qF <| qv hS rfl hM (fun Li hM => ?_) (fun Li hM => ?_)
  ·refine wp_skip ?_
   refine qd <| wp_seq <| xw ?_
   obtain ⟨G0, hM⟩ := qH hM
   obtain ⟨Lj, hM⟩ := qH hM
   refine za (vals := [some (qS Gy 0), some (qS Gy 0), some (qS Gy 0), some (qS GV 1), some (.slice Gz Gu.literals_.codes_.length GC), some (.int .i64 Gv), some (xc Gz (Int.toNat Gv * 1)), some (.int .i64 (rd Gu.literals_.codes_ Gv)), some (.int .i64 Gx), some (.int .i64 (xC .i64 (rd Gu.literals_.codes_ Gv) Gx)), some (.int .i64 (x8 .i64 (xC .i64 (rd Gu.literals_.codes_ Gv) Gx) (1 : Int))), some (.int .u32 (wr .u32 (x8 .i64 (xC .i64 (rd Gu.literals_.codes_ Gv) Gx) (1 : Int)))), none]) hS xp rfl ?_
   intro l w ho hcl hA hst
   refine jn hA hst ho hcl xv xo 12 [0, 1, 2, 3, 4, 5, 6, 7, 8, 9, 10, 11] rfl rfl rfl rfl rfl (by exact ⟨nM rfl, nQ rfl (by exact qU (yx rfl) rfl), nQ rfl (by exact qU (xu rfl Tryd.runUnderlying49 rfl Tryd.sizeOf44 rfl) rfl), nQ rfl (by exact qU (xu rfl Tryd.runUnderlying47 rfl Tryd.sizeOf45 rfl) rfl), nQ rfl (by exact qU (xW 6 rfl GW rfl rfl Tryd.isAgg45) rfl), nM rfl, nQ rfl (by exact qU (xM rfl rfl Tryd.runUnderlying45 Tryd.sizeOf3 (GO.rd (i := 3) rfl) (fun _ => rfl) rfl G0) rfl), nQ rfl (by exact qU (yd rfl (GO.rd (i := 3) rfl) (fun _ => rfl) G0 rfl Tryd.isAgg3) rfl), nM rfl, nQ rfl (by exact qU (shr rfl rfl Lj) rfl), nB rfl, nQ rfl (by exact qU (vZ rfl Tryd.runUnderlying3 Tryd.runUnderlying53) rfl), trivial⟩) fun D l a w ho hcl hav hpre hm hE hk hA hst => ?_
   have hS := (Ss.mk hE hst).env2 (e' := [(19, qS Gy 0), (28, .int .u32 (wr .u32 (x8 .i64 (xC .i64 (rd Gu.literals_.codes_ Gv) Gx) (1 : Int))))]) ⟨rfl, rfl, trivial⟩
   refine q7 rfl <| qO hS rfl Tryd.call23 (zo hG K (qt.mk (qW.mk (q8.mk GB) Gw) Gu.literals_ Gu.distances_) (wr .u32 (x8 .i64 (xC .i64 (rd Gu.literals_.codes_ Gv) Gx) (1 : Int))) (1 : Int) Gy GT GQ GR GS GD GE GF Gz GC GG GJ GK GH GL GM GI GZ GY GN GO G9 La (hS.st.part 6 [0, 1, 2, 3, 4, 5, 6] (by kernel_rfl)) (qE hM) (fun Ln G5 Lo Lp GU Lk Ll w hM Lq Lr hst => qL hS.ev hst.appF rfl fun hS => ?_))
   replace hS : Ss _ _ _ H [Ll, Lk, GF, GG, GH, GI, Lf] F _ _ := hS
   refine qF ?_
   replace hst := hS.st
   obtain ⟨hcl, hmust, hav2, hA⟩ := dn (vals' := [some (qS Gy 0), some (qS Gy 0), some (qS Gy 0), some (qS GV 1), some (.slice Gz Gu.literals_.codes_.length GC), some (.int .i64 Gv), some (xc Gz (Int.toNat Gv * 1)), some (.int .i64 (rd Gu.literals_.codes_ Gv)), some (.int .i64 Gx), some (.int .i64 (xC .i64 (rd Gu.literals_.codes_ Gv) Gx)), some (.int .i64 (x8 .i64 (xC .i64 (rd Gu.literals_.codes_ Gv) Gx) (1 : Int))), some (.int .u32 (wr .u32 (x8 .i64 (xC .i64 (rd Gu.literals_.codes_ Gv) Gx) (1 : Int)))), some (.int .i64 Ln)]) 12 [(2, 12), (11, 12), (1, 2), (10, 11), (0, 1), (9, 10), (7, 9), (8, 9), (6, 7), (4, 6), (5, 6), (3, 4)] hA hcl hav hm hpre hk rfl rfl rfl rfl rfl rfl rfl
   clear hm hav
   refine x3 hA hst ho hcl hmust [] rfl rfl rfl trivial fun a w hS => ?_
   replace hS := hS.env2 (e' := [(0, qS Gy 0), (2, .int .i64 Gv), (4, qS GV 0), (6, .int .i64 Gx)]) ⟨rfl, rfl, rfl, rfl, trivial⟩
   refine zr (qd ?_)
   refine zB <| sM hS rfl fun hS => sB hS rfl fun hS => zz (v := Value.int .i64) (x0 := (qh (Gx - (1 : Int)))) hS (xj rfl) rfl fun Lt a w hz hS => ?_
   have hM := qC hz hM; clear hz
   refine zc <| qd ?_
   exact Lh _ _ ⟨G5, Lo, Lp, GU, Lk, Ll, Lt, hS.to [0, 1, 2, 3, 4, 5, 6] (by kernel_rfl) ⟨rfl, rfl, rfl, rfl, trivial⟩, Lq, Lr, hM⟩
  ·refine wp_exit ?_
   refine qB (qB (qY ?_))
   exact y4 (rs := []) hS rfl rfl (hret GB GQ GR Gw GS GT _ (qV hM) GY GZ (hS.st.pick [0, 1, 2, 3, 4, 5] (by kernel_rfl)))
theorem uj {H : xR} {F : List qq} {w : World} {R : Ending → World → Prop} {kr : (Int × Int × Int) → Prop} {kp : Value → Prop} (hG : Gl H) (K : Nat) (Gx : Int) (Gw : Int)
    (hS : St w H [] F) (hm : (xb.m K Gx Gw).wp kr kp)
    (hret : ∀ (Gz : Int) (GB : Int) (GC : Int) (w : World), kr (Gz, GB, GC) → St w H [] F → R (.returned (.agg ⟨[.int .i64 Gz, .int .i64 GB, .int .u32 GC]⟩)) w) :
    Calls Tryd.prog 52 ⟨[.int .i64 Gx, .int .i64 Gw]⟩ w R := by
 refine enter Tryd.func52 rfl Tryd.ntmps52 rfl hS fun a w hS => ?_
 have hM := hm; clear hm
 rw [xb.m] at hM
 refine qp <| Qs ([.int .i64 (0 : Int), .int .i64 (0 : Int), .int .u32 (0 : Int)]) hS Tryd.zeroValue68 rfl rfl fun w GD GF GG hS => qF <| qp <| sM hS rfl fun hS => sA hS rfl fun hS => sA hS rfl fun hS => qF <| zg (fun a w => ∃ (Gu : Int) (Gv : Int), Ss 29 [] [(0, .int .i64 Gx), (1, .int .i64 Gw), (4, qS GD 0), (5, .int .i64 Gu), (6, .int .i64 Gv)] H [GF] F a w ∧ (xb.j2 K Gx Gw Gu Gv).wp kr kp) (fun GQ GH => ?_) ?_
 ·refine xw ?_
  refine zk (fun GI a w => ∃ (GA : Int) (Gy : Int), Ss 29 [] [(0, .int .i64 Gx), (1, .int .i64 Gw), (4, qS GD 0), (5, .int .i64 GA), (6, .int .i64 Gy)] H [GF] F a w ∧ (xb.l1 K Gx Gw GI GA Gy).wp kr kp) K ?_ ?_ ?_
  ·exact ⟨(0 : Int), Gx, hS.to [0] (by kernel_rfl) ⟨rfl, rfl, rfl, rfl, rfl, trivial⟩, hM⟩
  ·intro a w hI; obtain ⟨_, _, _, hM⟩ := hI; exact zj hM
  ·intro GI a w hI GR GJ
   obtain ⟨GA, Gy, hS, hM⟩ := hI
   rw [xb.l1] at hM
   refine wp_seq <| qp <| sM hS rfl fun hS => sM hS rfl fun hS => ?_
   obtain ⟨GK, hM⟩ := qH hM
   refine sO hS (shl rfl rfl GK) rfl fun hS => sB hS rfl fun hS => qF <| qv hS rfl hM (fun GL hM => ?_) (fun GL hM => ?_)
   ·refine wp_skip ?_
    refine qd <| xw <| qp <| sM hS rfl fun hS => sO hS (shr rfl rfl rfl) rfl fun hS => zz (v := Value.int .i64) (x0 := (xC .i64 Gy (1 : Int))) hS (xj rfl) rfl fun GE a w hz hS => ?_
    have hM := qC hz hM; clear hz
    refine qF <| zB <| sM hS rfl fun hS => sB hS rfl fun hS => zz (v := Value.int .i64) (x0 := (qh (GA + (1 : Int)))) hS (xj rfl) rfl fun GM a w hz hS => ?_
    have hM := qC hz hM; clear hz
    refine zc <| zr (qd ?_)
    exact GJ _ _ ⟨GM, GE, hS.to [0] (by kernel_rfl) ⟨rfl, rfl, rfl, rfl, rfl, trivial⟩, hM⟩
   ·refine wp_exit ?_
    refine qB (qB (qY (qd ?_)))
    exact GH _ _ ⟨GA, Gy, hS.to [0] (by kernel_rfl) ⟨rfl, rfl, rfl, rfl, rfl, trivial⟩, hM⟩
 ·intro a w hI
  obtain ⟨Gu, Gv, hS, hM⟩ := hI
  rw [xb.j2] at hM
  refine wp_seq ?_
  obtain ⟨GN, hM⟩ := qH hM
  obtain ⟨GO, hM⟩ := qH hM
  refine za (vals := [some (.int .i64 Gu), some (.int .i64 Gw), some (.int .i64 (xz .i64 Gu Gw)), some (.int .i64 Gv), some (.int .i64 (qh ((xz .i64 Gu Gw) + Gv))), some (.int .i64 Gu), some (.int .i64 Gx), some (.int .i64 Gv), some (.int .i64 Gu), some (.int .i64 (xz .i64 Gv Gu)), some (.int .i64 (qh (Gx - (xz .i64 Gv Gu)))), some (.int .u32 (wr .u32 (qh (Gx - (xz .i64 Gv Gu))))), some (.agg ⟨[.int .i64 (qh ((xz .i64 Gu Gw) + Gv)), .int .i64 Gu, .int .u32 (wr .u32 (qh (Gx - (xz .i64 Gv Gu))))]⟩), none]) hS xp rfl ?_
  intro l w ho hcl hA hst
  refine jn hA hst ho hcl xv xo 13 [0, 1, 2, 3, 4, 5, 6, 7, 8, 9, 10, 11, 12] rfl rfl rfl rfl rfl (by exact ⟨nM rfl, nM rfl, nQ rfl (by exact qU (shl rfl rfl GN) rfl), nM rfl, nB rfl, nM rfl, nM rfl, nM rfl, nM rfl, nQ rfl (by exact qU (shl rfl rfl GO) rfl), nB rfl, nQ rfl (by exact qU (vZ rfl Tryd.runUnderlying3 Tryd.runUnderlying53) rfl), nQ rfl (by exact qU (Zx ([.int .i64 (qh ((xz .i64 Gu Gw) + Gv)), .int .i64 Gu, .int .u32 (wr .u32 (qh (Gx - (xz .i64 Gv Gu))))]) [(0, 1), (1, 1), (2, 1)] Tryd.zeroValue68 Tryd.runUnderlying68 (by intro w; simp [Tryd.sizeOf3, Tryd.sizeOf53]) rfl rfl) rfl), trivial⟩) fun D l a w ho hcl hav hpre hm hE hk hA hst => ?_
  have hS := (Ss.mk hE hst).env2 (e' := [(4, qS GD 0), (28, .agg ⟨[.int .i64 (qh ((xz .i64 Gu Gw) + Gv)), .int .i64 Gu, .int .u32 (wr .u32 (qh (Gx - (xz .i64 Gv Gu))))]⟩)]) ⟨rfl, rfl, trivial⟩
  refine q7 rfl <| uz 0 ([.int .i64 (qh ((xz .i64 Gu Gw) + Gv)), .int .i64 Gu, .int .u32 (wr .u32 (qh (Gx - (xz .i64 Gv Gu))))]) ([.int .i64 (qh ((xz .i64 Gu Gw) + Gv)), .int .i64 Gu, .int .u32 (wr .u32 (qh (Gx - (xz .i64 Gv Gu))))]) hS rfl rfl GG rfl rfl Tryd.sizeOf68 (by simp [Value.oneCell']) (Nat.le_of_ble_eq_true rfl) rfl fun w GS GP hS => qF ?_
  replace hst := hS.st
  obtain ⟨hcl, hmust, hav2, hA⟩ := ZV (vals' := [some (.int .i64 Gu), some (.int .i64 Gw), some (.int .i64 (xz .i64 Gu Gw)), some (.int .i64 Gv), some (.int .i64 (qh ((xz .i64 Gu Gw) + Gv))), some (.int .i64 Gu), some (.int .i64 Gx), some (.int .i64 Gv), some (.int .i64 Gu), some (.int .i64 (xz .i64 Gv Gu)), some (.int .i64 (qh (Gx - (xz .i64 Gv Gu)))), some (.int .u32 (wr .u32 (qh (Gx - (xz .i64 Gv Gu))))), some (.agg ⟨[.int .i64 (qh ((xz .i64 Gu Gw) + Gv)), .int .i64 Gu, .int .u32 (wr .u32 (qh (Gx - (xz .i64 Gv Gu))))]⟩), some undef]) 13 [(0, 13), (1, 13), (2, 13), (3, 13), (4, 13), (5, 13), (6, 13), (7, 13), (8, 13), (9, 13), (10, 13), (11, 13), (12, 13)] hA hcl hav hm hpre rfl rfl rfl rfl rfl
  clear hm hav
  refine x3 hA hst ho hcl hmust [] rfl rfl rfl trivial fun a w hS => ?_
  replace hS := hS.env2 (e' := [(4, qS GD 0)]) ⟨rfl, trivial⟩
  refine qd <| wp_ret ?_
  exact yC (vs := [.agg ⟨[.int .i64 (qh ((xz .i64 Gu Gw) + Gv)), .int .i64 Gu, .int .u32 (wr .u32 (qh (Gx - (xz .i64 Gv Gu))))]⟩]) hS rfl (by exact ⟨YW 0 ([.int .i64 (qh ((xz .i64 Gu Gw) + Gv)), .int .i64 Gu, .int .u32 (wr .u32 (qh (Gx - (xz .i64 Gv Gu))))]) rfl GP rfl rfl rfl Tryd.isAgg68 Tryd.sizeOf68, trivial⟩) (hret (qh ((xz .i64 Gu Gw) + Gv)) Gu (wr .u32 (qh (Gx - (xz .i64 Gv Gu)))) _ (qV hM) (hS.st.pick [] (by kernel_rfl)))
theorem ue {H : xR} {F : List qq} {w : World} {R : Ending → World → Prop} {kr : (Int × Int × Int) → Prop} {kp : Value → Prop} (hG : Gl H) (K : Nat) (GA : Int)
    (hS : St w H [] F) (hm : (yI.m K GA).wp kr kp)
    (hret : ∀ (Gx : Int) (Gy : Int) (Gz : Int) (w : World), kr (Gx, Gy, Gz) → St w H [] F → R (.returned (.agg ⟨[.int .i64 Gx, .int .i64 Gy, .int .u32 Gz]⟩)) w) :
    Calls Tryd.prog 35 ⟨[.int .i64 GA]⟩ w R := by
 refine enter Tryd.func35 rfl Tryd.ntmps35 rfl hS fun a w hS => ?_
 have hM := hm; clear hm
 rw [yI.m] at hM
 refine qp <| Qs ([.int .i64 (0 : Int), .int .i64 (0 : Int), .int .u32 (0 : Int)]) hS Tryd.zeroValue68 rfl rfl fun w GJ GI GB hS => qF <| wp_seq <| qp <| sM hS rfl fun hS => sB hS rfl fun hS => qF <| qv hS rfl hM (fun GD hM => ?_) (fun GD hM => ?_)
 ·refine wp_seq ?_
  refine zB <| sO hS (Zx ([.int .i64 (285 : Int), .int .i64 (0 : Int), .int .u32 (0 : Int)]) [(0, 1), (1, 1), (2, 1)] Tryd.zeroValue68 Tryd.runUnderlying68 (by intro w; simp [Tryd.sizeOf3, Tryd.sizeOf53]) rfl rfl) rfl fun hS => uz 0 ([.int .i64 (285 : Int), .int .i64 (0 : Int), .int .u32 (0 : Int)]) ([.int .i64 (285 : Int), .int .i64 (0 : Int), .int .u32 (0 : Int)]) hS rfl rfl GB rfl rfl Tryd.sizeOf68 (by simp [Value.oneCell']) (Nat.le_of_ble_eq_true rfl) rfl fun w GK GE hS => qF <| wp_ret <| qz ?_
  exact yC (vs := [.agg ⟨[.int .i64 (285 : Int), .int .i64 (0 : Int), .int .u32 (0 : Int)]⟩]) hS rfl (by exact ⟨YW 0 ([.int .i64 (285 : Int), .int .i64 (0 : Int), .int .u32 (0 : Int)]) rfl GE rfl rfl rfl Tryd.isAgg68 Tryd.sizeOf68, trivial⟩) (hret (285 : Int) (0 : Int) (0 : Int) _ (qV hM) (hS.st.pick [] (by kernel_rfl)))
 ·refine wp_skip ?_
  refine qd <| qp <| sM hS rfl fun hS => sB hS rfl fun hS => qO hS rfl Tryd.call52 (uj hG K (qh (GA - (3 : Int))) (2 : Int) (hS.st.part 0 [0] (by kernel_rfl)) (qE hM) (fun Gu Gv Gw w hM  hst => qL hS.ev hst.appF rfl fun hS => ?_))
  replace hS : Ss _ _ _ H [GI] F _ _ := hS
  refine Qs ([.int .i64 (0 : Int), .int .i64 (0 : Int), .int .u32 (0 : Int)]) hS Tryd.zeroValue68 rfl rfl fun w GL GM GF hS => uz 0 ([.int .i64 Gu, .int .i64 Gv, .int .u32 Gw]) ([.int .i64 Gu, .int .i64 Gv, .int .u32 Gw]) hS rfl rfl GF rfl rfl Tryd.sizeOf68 (by simp [Value.oneCell']) (Nat.le_of_ble_eq_true rfl) rfl fun w GN GC hS => qF <| qp <| sO hS (xu rfl Tryd.runUnderlying68 rfl Tryd.sizeOf3 rfl) rfl fun hS => sO hS (xW 0 rfl GC rfl rfl Tryd.isAgg3) rfl fun hS => sB hS rfl fun hS => sO hS (xu rfl Tryd.runUnderlying68 rfl Tryd.sizeOf3 rfl) rfl fun hS => Uk 0 ([.int .i64 (qh (Gu + (257 : Int))), .int .i64 Gv, .int .u32 Gw]) hS rfl rfl GC rfl rfl rfl rfl Tryd.sizeOf3 fun w GO GG hS => qF <| qp <| sO hS (vF 0 rfl GG rfl ([.int .i64 (qh (Gu + (257 : Int))), .int .i64 Gv, .int .u32 Gw]) rfl rfl Tryd.isAgg68 Tryd.sizeOf68) rfl fun hS => uz 1 ([.int .i64 (qh (Gu + (257 : Int))), .int .i64 Gv, .int .u32 Gw]) ([.int .i64 (qh (Gu + (257 : Int))), .int .i64 Gv, .int .u32 Gw]) hS rfl rfl GB rfl rfl Tryd.sizeOf68 (by simp [Value.oneCell']) (Nat.le_of_ble_eq_true rfl) rfl fun w GP GH hS => qF <| wp_ret ?_
  exact yC (vs := [.agg ⟨[.int .i64 (qh (Gu + (257 : Int))), .int .i64 Gv, .int .u32 Gw]⟩]) hS rfl (by exact ⟨YW 1 ([.int .i64 (qh (Gu + (257 : Int))), .int .i64 Gv, .int .u32 Gw]) rfl GH rfl rfl rfl Tryd.isAgg68 Tryd.sizeOf68, trivial⟩) (hret (qh (Gu + (257 : Int))) Gv Gw _ (qV hM) (hS.st.pick [] (by kernel_rfl)))
theorem vD {H : xR} {F : List qq} {w : World} {R : Ending → World → Prop} {kr : (Int × (List Int)) → Prop} {kp : Value → Prop} (hG : Gl H) (K : Nat) (Gu : qt) (GZ : qx) (Gv : xT) (Gw : Nat) (GT : qq) (GU : Option Addr) (GV : Nat) (GW : qq) (Gy : Option Addr) (Gz : Nat) (GC : qq) (GA : Option Addr) (GB : Nat) (GD : qq) (GG : Option Addr) (GH : Nat) (GE : qq) (GI : Option Addr) (GJ : Nat) (GF : qq) (G0 : xZ GT Gw ([.int .i64 Gu.Writer_.place_.at_, .slice GU Gu.Writer_.bytes_.length GV, .slice Gy Gu.literals_.lengths_.length Gz, .slice GA Gu.literals_.codes_.length GB, .slice GG Gu.distances_.lengths_.length GH, .slice GI Gu.distances_.codes_.length GJ]) 49) (G1 : xa 5 (ci .u8) 1 GU Gu.Writer_.bytes_ GV GW) (GP : xa 3 (ci .i64) 1 Gy Gu.literals_.lengths_ Gz GC) (GQ : xa 3 (ci .i64) 1 GA Gu.literals_.codes_ GB GD) (GR : xa 3 (ci .i64) 1 GG Gu.distances_.lengths_ GH GE) (GS : xa 3 (ci .i64) 1 GI Gu.distances_.codes_ GJ GF)
    (hS : St w H [GT, GW, GC, GD, GE, GF] F) (hm : (yf.m K Gu GZ Gv).wp kr kp)
    (hret : ∀ (GK : Int) (G2 : Option Addr) (G3 : Nat) (Gx : (List Int)) (G4 : qq) (G5 : qq) (w : World), kr (GK, Gx) → (xa 5 (ci .u8) 1 G2 Gx G3 G4) → (xZ G5 Gw ([.int .i64 GK, .slice G2 Gx.length G3, .slice Gy Gu.literals_.lengths_.length Gz, .slice GA Gu.literals_.codes_.length GB, .slice GG Gu.distances_.lengths_.length GH, .slice GI Gu.distances_.codes_.length GJ]) 49) → St w H [G5, G4, GC, GD, GE, GF] F → R (.returned (.tuple ⟨[]⟩)) w) :
    Calls Tryd.prog 50 ⟨[qS Gw 0, .agg ⟨[.slice Gy Gu.literals_.lengths_.length Gz, .slice GA Gu.literals_.codes_.length GB]⟩, .agg ⟨[.int .i64 Gv.symbol_, .int .i64 Gv.bits_, .int .u32 Gv.more_]⟩]⟩ w R := by
 refine enter Tryd.func50 rfl Tryd.ntmps50 rfl hS fun a w hS => ?_
 have hM := hm; clear hm
 rw [yf.m] at hM
 refine qp <| bx ([.slice Gy Gu.literals_.lengths_.length Gz, .slice GA Gu.literals_.codes_.length GB]) hS rfl rfl rfl fun w Lm G6 G7 hS => bx ([.int .i64 Gv.symbol_, .int .i64 Gv.bits_, .int .u32 Gv.more_]) hS rfl rfl rfl fun w GO G8 GL hS => qF <| qp <| sM hS rfl fun hS => sO hS (vF 1 rfl G7 rfl ([.slice Gy Gu.literals_.lengths_.length Gz, .slice GA Gu.literals_.codes_.length GB]) rfl rfl Tryd.isAgg47 Tryd.sizeOf47) rfl fun hS => sO hS (xu rfl Tryd.runUnderlying68 rfl Tryd.sizeOf3 rfl) rfl fun hS => sO hS (xW 0 rfl GL rfl rfl Tryd.isAgg3) rfl fun hS => qO hS rfl Tryd.call41 (yl hG K Gu Gu.literals_ Gv.symbol_ Gw GT GU GV GW Gy Gz GC GA GB GD GG GH GE GI GJ GF G0 G1 GP GQ GR GS (hS.st.part 6 [2, 3, 4, 5, 6, 7, 0, 1] (by kernel_rfl)) (qE hM) (fun GX Ld Le GM G9 La w hM Lf Lg hst => qL hS.ev hst.appF rfl fun hS => ?_))
 replace hS : Ss _ _ _ H [La, G9, GC, GD, GE, GF, G8, G6] F _ _ := hS
 refine qF <| za (vals := [some (qS Gw 0), some (qS Gw 0), some (qS Gw 0), some (qS GO 2), some (.int .u32 Gv.more_), some (qS GO 1), some (.int .i64 Gv.bits_), none]) hS xp rfl ?_
 intro l w ho hcl hA hst
 refine jn hA hst ho hcl xv xo 7 [0, 1, 2, 3, 4, 5, 6] rfl rfl rfl rfl rfl (by exact ⟨nM rfl, nQ rfl (by exact qU (yx rfl) rfl), nQ rfl (by exact qU (xu rfl Tryd.runUnderlying49 rfl Tryd.sizeOf44 rfl) rfl), nQ rfl (by exact qU (xu rfl Tryd.runUnderlying68 rfl Tryd.sizeOf53 rfl) rfl), nQ rfl (by exact qU (xW 6 rfl GL rfl rfl Tryd.isAgg53) rfl), nQ rfl (by exact qU (xu rfl Tryd.runUnderlying68 rfl Tryd.sizeOf3 rfl) rfl), nQ rfl (by exact qU (xW 6 rfl GL rfl rfl Tryd.isAgg3) rfl), trivial⟩) fun D l a w ho hcl hav hpre hm hE hk hA hst => ?_
 have hS := (Ss.mk hE hst).env2 (e' := [(13, qS Gw 0), (15, .int .u32 Gv.more_), (17, .int .i64 Gv.bits_)]) ⟨rfl, rfl, rfl, trivial⟩
 refine q7 rfl <| qO hS rfl Tryd.call23 (zo hG K (qt.mk (qW.mk (q8.mk GX) GM) Gu.literals_ Gu.distances_) Gv.more_ Gv.bits_ Gw La Ld Le G9 Gy Gz GC GA GB GD GG GH GE GI GJ GF Lg Lf GP GQ GR GS (hS.st.part 6 [0, 1, 2, 3, 4, 5, 6, 7] (by kernel_rfl)) (qE hM) (fun Lh GY Li Lj GN Lb Lc w hM Lk Ll hst => qL hS.ev hst.appF rfl fun hS => ?_))
 replace hS : Ss _ _ _ H [Lc, Lb, GC, GD, GE, GF, G8, G6] F _ _ := hS
 refine qF ?_
 replace hst := hS.st
 obtain ⟨hcl, hmust, hav2, hA⟩ := dn (vals' := [some (qS Gw 0), some (qS Gw 0), some (qS Gw 0), some (qS GO 2), some (.int .u32 Gv.more_), some (qS GO 1), some (.int .i64 Gv.bits_), some (.int .i64 Lh)]) 7 [(2, 7), (4, 7), (6, 7), (1, 2), (3, 4), (5, 6), (0, 1)] hA hcl hav hm hpre hk rfl rfl rfl rfl rfl rfl rfl
 clear hm hav
 refine x3 hA hst ho hcl hmust [] rfl rfl rfl trivial fun a w hS => ?_
 replace hS := hS.env2 (e' := []) trivial
 exact y4 (rs := []) hS rfl rfl (hret GY Li Lj GN Lb Lc _ (qV hM) Lk Ll (hS.st.pick [0, 1, 2, 3, 4, 5] (by kernel_rfl)))
theorem vH {H : xR} {F : List qq} {w : World} {R : Ending → World → Prop} {kr : (Int × Int × Int) → Prop} {kp : Value → Prop} (hG : Gl H) (K : Nat) (GA : Int)
    (hS : St w H [] F) (hm : (yv.m K GA).wp kr kp)
    (hret : ∀ (Gx : Int) (Gy : Int) (Gz : Int) (w : World), kr (Gx, Gy, Gz) → St w H [] F → R (.returned (.agg ⟨[.int .i64 Gx, .int .i64 Gy, .int .u32 Gz]⟩)) w) :
    Calls Tryd.prog 36 ⟨[.int .i64 GA]⟩ w R := by
 refine enter Tryd.func36 rfl Tryd.ntmps36 rfl hS fun a w hS => ?_
 have hM := hm; clear hm
 rw [yv.m] at hM
 refine qp <| Qs ([.int .i64 (0 : Int), .int .i64 (0 : Int), .int .u32 (0 : Int)]) hS Tryd.zeroValue68 rfl rfl fun w GE GD GB hS => qF <| qp <| sM hS rfl fun hS => sB hS rfl fun hS => qO hS rfl Tryd.call52 (uj hG K (qh (GA - (1 : Int))) (1 : Int) (hS.st.part 0 [0] (by kernel_rfl)) (qE hM) (fun Gu Gv Gw w hM  hst => qL hS.ev hst.appF rfl fun hS => ?_))
 replace hS : Ss _ _ _ H [GD] F _ _ := hS
 refine uz 0 ([.int .i64 Gu, .int .i64 Gv, .int .u32 Gw]) ([.int .i64 Gu, .int .i64 Gv, .int .u32 Gw]) hS rfl rfl GB rfl rfl Tryd.sizeOf68 (by simp [Value.oneCell']) (Nat.le_of_ble_eq_true rfl) rfl fun w GF GC hS => qF <| wp_ret ?_
 exact yC (vs := [.agg ⟨[.int .i64 Gu, .int .i64 Gv, .int .u32 Gw]⟩]) hS rfl (by exact ⟨YW 0 ([.int .i64 Gu, .int .i64 Gv, .int .u32 Gw]) rfl GC rfl rfl rfl Tryd.isAgg68 Tryd.sizeOf68, trivial⟩) (hret Gu Gv Gw _ (qV hM) (hS.st.pick [] (by kernel_rfl)))
theorem vd {H : xR} {F : List qq} {w : World} {R : Ending → World → Prop} {kr : (Int × (List Int)) → Prop} {kp : Value → Prop} (hG : Gl H) (K : Nat) (Gu : qt) (Lg : qx) (Gx : Int) (Gy : Nat) (G9 : qq) (La : Option Addr) (Lb : Nat) (Lc : qq) (GP : Option Addr) (GQ : Nat) (GK : qq) (GR : Option Addr) (GS : Nat) (GL : qq) (GH : Option Addr) (GI : Nat) (GM : qq) (GB : Option Addr) (GC : Nat) (GN : qq) (Lh : xZ G9 Gy ([.int .i64 Gu.Writer_.place_.at_, .slice La Gu.Writer_.bytes_.length Lb, .slice GP Gu.literals_.lengths_.length GQ, .slice GR Gu.literals_.codes_.length GS, .slice GH Gu.distances_.lengths_.length GI, .slice GB Gu.distances_.codes_.length GC]) 49) (Li : xa 5 (ci .u8) 1 La Gu.Writer_.bytes_ Lb Lc) (Lj : xa 3 (ci .i64) 1 GP Gu.literals_.lengths_ GQ GK) (Lk : xa 3 (ci .i64) 1 GR Gu.literals_.codes_ GS GL) (GT : xa 3 (ci .i64) 1 GH Gu.distances_.lengths_ GI GM) (GU : xa 3 (ci .i64) 1 GB Gu.distances_.codes_ GC GN)
    (hS : St w H [G9, Lc, GK, GL, GM, GN] F) (hm : (z5.m K Gu Lg Gx).wp kr kp)
    (hret : ∀ (GJ : Int) (G0 : Option Addr) (G1 : Nat) (GA : (List Int)) (G2 : qq) (G3 : qq) (w : World), kr (GJ, GA) → (xa 5 (ci .u8) 1 G0 GA G1 G2) → (xZ G3 Gy ([.int .i64 GJ, .slice G0 GA.length G1, .slice GP Gu.literals_.lengths_.length GQ, .slice GR Gu.literals_.codes_.length GS, .slice GH Gu.distances_.lengths_.length GI, .slice GB Gu.distances_.codes_.length GC]) 49) → St w H [G3, G2, GK, GL, GM, GN] F → R (.returned (.tuple ⟨[]⟩)) w) :
    Calls Tryd.prog 41 ⟨[qS Gy 0, .agg ⟨[.slice GH Gu.distances_.lengths_.length GI, .slice GB Gu.distances_.codes_.length GC]⟩, .int .i64 Gx]⟩ w R := by
 refine enter Tryd.func41 rfl Tryd.ntmps41 rfl hS fun a w hS => ?_
 have hM := hm; clear hm
 rw [z5.m] at hM
 refine qp <| bx ([.slice GH Gu.distances_.lengths_.length GI, .slice GB Gu.distances_.codes_.length GC]) hS rfl rfl rfl fun w GY Ll G4 hS => qF <| qp <| sO hS (xu rfl Tryd.runUnderlying47 rfl Tryd.sizeOf45 rfl) rfl fun hS => sO hS (xW 0 rfl G4 rfl rfl Tryd.isAgg45) rfl fun hS => sM hS rfl fun hS => ?_
 obtain ⟨G5, hM⟩ := qH hM
 refine sO hS (xM rfl rfl Tryd.runUnderlying45 Tryd.sizeOf3 (GT.rd (i := 5) rfl) (fun _ => rfl) rfl G5) rfl fun hS => sO hS (yd rfl (GT.rd (i := 5) rfl) (fun _ => rfl) G5 rfl Tryd.isAgg3) rfl fun hS => sB hS rfl fun hS => zz (v := Value.int .i64) (x0 := (qh ((rd Gu.distances_.lengths_ Gx) - (1 : Int)))) hS (xj rfl) rfl fun Lt a w hz hS => ?_
 have hM := qC hz hM; clear hz
 refine qF <| xw <| zk (fun G6 a w => ∃ (Gz : Int) (GD : Option Addr) (GE : Nat) (Gv : (List Int)) (GF : qq) (GG : qq) (Gw : Int), Ss 30 [] [(0, qS Gy 0), (2, .int .i64 Gx), (4, qS GY 0), (6, .int .i64 Gw)] H [GG, GF, GK, GL, GM, GN, Ll] F a w ∧ (xa 5 (ci .u8) 1 GD Gv GE GF) ∧ (xZ GG Gy ([.int .i64 Gz, .slice GD Gv.length GE, .slice GP Gu.literals_.lengths_.length GQ, .slice GR Gu.literals_.codes_.length GS, .slice GH Gu.distances_.lengths_.length GI, .slice GB Gu.distances_.codes_.length GC]) 49) ∧ (z5.l1 K Gu Gx G6 Gz Gv Gw).wp kr kp) K ?_ ?_ ?_
 ·exact ⟨Gu.Writer_.place_.at_, La, Lb, Gu.Writer_.bytes_, Lc, G9, Lt, hS.to [1, 2, 3, 4, 5, 6, 0] (by kernel_rfl) ⟨rfl, rfl, rfl, rfl, trivial⟩, Li, Lh, hM⟩
 ·intro a w hI; obtain ⟨_, _, _, _, _, _, _, _, _, _, hM⟩ := hI; exact zj hM
 ·intro G6 a w hI Lu Ld
  obtain ⟨Gz, GD, GE, Gv, GF, GG, Gw, hS, GV, GW, hM⟩ := hI
  rw [z5.l1] at hM
  refine wp_seq <| qp <| sM hS rfl fun hS => sB hS rfl fun hS => qF <| qv hS rfl hM (fun Le hM => ?_) (fun Le hM => ?_)
  ·refine wp_skip ?_
   refine qd <| wp_seq <| xw ?_
   obtain ⟨GX, hM⟩ := qH hM
   obtain ⟨Lf, hM⟩ := qH hM
   refine za (vals := [some (qS Gy 0), some (qS Gy 0), some (qS Gy 0), some (qS GY 1), some (.slice GB Gu.distances_.codes_.length GC), some (.int .i64 Gx), some (xc GB (Int.toNat Gx * 1)), some (.int .i64 (rd Gu.distances_.codes_ Gx)), some (.int .i64 Gw), some (.int .i64 (xC .i64 (rd Gu.distances_.codes_ Gx) Gw)), some (.int .i64 (x8 .i64 (xC .i64 (rd Gu.distances_.codes_ Gx) Gw) (1 : Int))), some (.int .u32 (wr .u32 (x8 .i64 (xC .i64 (rd Gu.distances_.codes_ Gx) Gw) (1 : Int)))), none]) hS xp rfl ?_
   intro l w ho hcl hA hst
   refine jn hA hst ho hcl xv xo 12 [0, 1, 2, 3, 4, 5, 6, 7, 8, 9, 10, 11] rfl rfl rfl rfl rfl (by exact ⟨nM rfl, nQ rfl (by exact qU (yx rfl) rfl), nQ rfl (by exact qU (xu rfl Tryd.runUnderlying49 rfl Tryd.sizeOf44 rfl) rfl), nQ rfl (by exact qU (xu rfl Tryd.runUnderlying47 rfl Tryd.sizeOf45 rfl) rfl), nQ rfl (by exact qU (xW 6 rfl G4 rfl rfl Tryd.isAgg45) rfl), nM rfl, nQ rfl (by exact qU (xM rfl rfl Tryd.runUnderlying45 Tryd.sizeOf3 (GU.rd (i := 5) rfl) (fun _ => rfl) rfl GX) rfl), nQ rfl (by exact qU (yd rfl (GU.rd (i := 5) rfl) (fun _ => rfl) GX rfl Tryd.isAgg3) rfl), nM rfl, nQ rfl (by exact qU (shr rfl rfl Lf) rfl), nB rfl, nQ rfl (by exact qU (vZ rfl Tryd.runUnderlying3 Tryd.runUnderlying53) rfl), trivial⟩) fun D l a w ho hcl hav hpre hm hE hk hA hst => ?_
   have hS := (Ss.mk hE hst).env2 (e' := [(19, qS Gy 0), (28, .int .u32 (wr .u32 (x8 .i64 (xC .i64 (rd Gu.distances_.codes_ Gx) Gw) (1 : Int))))]) ⟨rfl, rfl, trivial⟩
   refine q7 rfl <| qO hS rfl Tryd.call23 (zo hG K (qt.mk (qW.mk (q8.mk Gz) Gv) Gu.literals_ Gu.distances_) (wr .u32 (x8 .i64 (xC .i64 (rd Gu.distances_.codes_ Gx) Gw) (1 : Int))) (1 : Int) Gy GG GD GE GF GP GQ GK GR GS GL GH GI GM GB GC GN GW GV Lj Lk GT GU (hS.st.part 6 [0, 1, 2, 3, 4, 5, 6] (by kernel_rfl)) (qE hM) (fun Lm GZ Ln Lo GO G7 G8 w hM Lp Lq hst => qL hS.ev hst.appF rfl fun hS => ?_))
   replace hS : Ss _ _ _ H [G8, G7, GK, GL, GM, GN, Ll] F _ _ := hS
   refine qF ?_
   replace hst := hS.st
   obtain ⟨hcl, hmust, hav2, hA⟩ := dn (vals' := [some (qS Gy 0), some (qS Gy 0), some (qS Gy 0), some (qS GY 1), some (.slice GB Gu.distances_.codes_.length GC), some (.int .i64 Gx), some (xc GB (Int.toNat Gx * 1)), some (.int .i64 (rd Gu.distances_.codes_ Gx)), some (.int .i64 Gw), some (.int .i64 (xC .i64 (rd Gu.distances_.codes_ Gx) Gw)), some (.int .i64 (x8 .i64 (xC .i64 (rd Gu.distances_.codes_ Gx) Gw) (1 : Int))), some (.int .u32 (wr .u32 (x8 .i64 (xC .i64 (rd Gu.distances_.codes_ Gx) Gw) (1 : Int)))), some (.int .i64 Lm)]) 12 [(2, 12), (11, 12), (1, 2), (10, 11), (0, 1), (9, 10), (7, 9), (8, 9), (6, 7), (4, 6), (5, 6), (3, 4)] hA hcl hav hm hpre hk rfl rfl rfl rfl rfl rfl rfl
   clear hm hav
   refine x3 hA hst ho hcl hmust [] rfl rfl rfl trivial fun a w hS => ?_
   replace hS := hS.env2 (e' := [(0, qS Gy 0), (2, .int .i64 Gx), (4, qS GY 0), (6, .int .i64 Gw)]) ⟨rfl, rfl, rfl, rfl, trivial⟩
   refine zr (qd ?_)
   refine zB <| sM hS rfl fun hS => sB hS rfl fun hS => zz (v := Value.int .i64) (x0 := (qh (Gw - (1 : Int)))) hS (xj rfl) rfl fun Lr a w hz hS => ?_
   have hM := qC hz hM; clear hz
   refine zc <| qd ?_
   exact Ld _ _ ⟨GZ, Ln, Lo, GO, G7, G8, Lr, hS.to [0, 1, 2, 3, 4, 5, 6] (by kernel_rfl) ⟨rfl, rfl, rfl, rfl, trivial⟩, Lp, Lq, hM⟩
  ·refine wp_exit ?_
   refine qB (qB (qY ?_))
   exact y4 (rs := []) hS rfl rfl (hret Gz GD GE Gv GF GG _ (qV hM) GV GW (hS.st.pick [0, 1, 2, 3, 4, 5] (by kernel_rfl)))
theorem vA {H : xR} {F : List qq} {w : World} {R : Ending → World → Prop} {kr : (Int × (List Int)) → Prop} {kp : Value → Prop} (hG : Gl H) (K : Nat) (Gu : qt) (G7 : qx) (Gv : xT) (Gx : Nat) (G3 : qq) (G4 : Option Addr) (G5 : Nat) (G6 : qq) (GJ : Option Addr) (GK : Nat) (GC : qq) (GL : Option Addr) (GM : Nat) (GD : qq) (Gy : Option Addr) (Gz : Nat) (GE : qq) (GA : Option Addr) (GB : Nat) (GF : qq) (G8 : xZ G3 Gx ([.int .i64 Gu.Writer_.place_.at_, .slice G4 Gu.Writer_.bytes_.length G5, .slice GJ Gu.literals_.lengths_.length GK, .slice GL Gu.literals_.codes_.length GM, .slice Gy Gu.distances_.lengths_.length Gz, .slice GA Gu.distances_.codes_.length GB]) 49) (G9 : xa 5 (ci .u8) 1 G4 Gu.Writer_.bytes_ G5 G6) (GR : xa 3 (ci .i64) 1 GJ Gu.literals_.lengths_ GK GC) (GS : xa 3 (ci .i64) 1 GL Gu.literals_.codes_ GM GD) (GT : xa 3 (ci .i64) 1 Gy Gu.distances_.lengths_ Gz GE) (GU : xa 3 (ci .i64) 1 GA Gu.distances_.codes_ GB GF)
    (hS : St w H [G3, G6, GC, GD, GE, GF] F) (hm : (ye.m K Gu G7 Gv).wp kr kp)
    (hret : ∀ (GG : Int) (GV : Option Addr) (GW : Nat) (Gw : (List Int)) (GX : qq) (GY : qq) (w : World), kr (GG, Gw) → (xa 5 (ci .u8) 1 GV Gw GW GX) → (xZ GY Gx ([.int .i64 GG, .slice GV Gw.length GW, .slice GJ Gu.literals_.lengths_.length GK, .slice GL Gu.literals_.codes_.length GM, .slice Gy Gu.distances_.lengths_.length Gz, .slice GA Gu.distances_.codes_.length GB]) 49) → St w H [GY, GX, GC, GD, GE, GF] F → R (.returned (.tuple ⟨[]⟩)) w) :
    Calls Tryd.prog 50 ⟨[qS Gx 0, .agg ⟨[.slice Gy Gu.distances_.lengths_.length Gz, .slice GA Gu.distances_.codes_.length GB]⟩, .agg ⟨[.int .i64 Gv.symbol_, .int .i64 Gv.bits_, .int .u32 Gv.more_]⟩]⟩ w R := by
 refine enter Tryd.func50 rfl Tryd.ntmps50 rfl hS fun a w hS => ?_
 have hM := hm; clear hm
 rw [ye.m] at hM
 refine qp <| bx ([.slice Gy Gu.distances_.lengths_.length Gz, .slice GA Gu.distances_.codes_.length GB]) hS rfl rfl rfl fun w Lm La Lb hS => bx ([.int .i64 Gv.symbol_, .int .i64 Gv.bits_, .int .u32 Gv.more_]) hS rfl rfl rfl fun w GO Lc GN hS => qF <| qp <| sM hS rfl fun hS => sO hS (vF 1 rfl Lb rfl ([.slice Gy Gu.distances_.lengths_.length Gz, .slice GA Gu.distances_.codes_.length GB]) rfl rfl Tryd.isAgg47 Tryd.sizeOf47) rfl fun hS => sO hS (xu rfl Tryd.runUnderlying68 rfl Tryd.sizeOf3 rfl) rfl fun hS => sO hS (xW 0 rfl GN rfl rfl Tryd.isAgg3) rfl fun hS => qO hS rfl Tryd.call41 (vd hG K Gu Gu.distances_ Gv.symbol_ Gx G3 G4 G5 G6 GJ GK GC GL GM GD Gy Gz GE GA GB GF G8 G9 GR GS GT GU (hS.st.part 6 [2, 3, 4, 5, 6, 7, 0, 1] (by kernel_rfl)) (qE hM) (fun GP Ld Le GH GZ G0 w hM Lf Lg hst => qL hS.ev hst.appF rfl fun hS => ?_))
 replace hS : Ss _ _ _ H [G0, GZ, GC, GD, GE, GF, Lc, La] F _ _ := hS
 refine qF <| za (vals := [some (qS Gx 0), some (qS Gx 0), some (qS Gx 0), some (qS GO 2), some (.int .u32 Gv.more_), some (qS GO 1), some (.int .i64 Gv.bits_), none]) hS xp rfl ?_
 intro l w ho hcl hA hst
 refine jn hA hst ho hcl xv xo 7 [0, 1, 2, 3, 4, 5, 6] rfl rfl rfl rfl rfl (by exact ⟨nM rfl, nQ rfl (by exact qU (yx rfl) rfl), nQ rfl (by exact qU (xu rfl Tryd.runUnderlying49 rfl Tryd.sizeOf44 rfl) rfl), nQ rfl (by exact qU (xu rfl Tryd.runUnderlying68 rfl Tryd.sizeOf53 rfl) rfl), nQ rfl (by exact qU (xW 6 rfl GN rfl rfl Tryd.isAgg53) rfl), nQ rfl (by exact qU (xu rfl Tryd.runUnderlying68 rfl Tryd.sizeOf3 rfl) rfl), nQ rfl (by exact qU (xW 6 rfl GN rfl rfl Tryd.isAgg3) rfl), trivial⟩) fun D l a w ho hcl hav hpre hm hE hk hA hst => ?_
 have hS := (Ss.mk hE hst).env2 (e' := [(13, qS Gx 0), (15, .int .u32 Gv.more_), (17, .int .i64 Gv.bits_)]) ⟨rfl, rfl, rfl, trivial⟩
 refine q7 rfl <| qO hS rfl Tryd.call23 (zo hG K (qt.mk (qW.mk (q8.mk GP) GH) Gu.literals_ Gu.distances_) Gv.more_ Gv.bits_ Gx G0 Ld Le GZ GJ GK GC GL GM GD Gy Gz GE GA GB GF Lg Lf GR GS GT GU (hS.st.part 6 [0, 1, 2, 3, 4, 5, 6, 7] (by kernel_rfl)) (qE hM) (fun Lh GQ Li Lj GI G1 G2 w hM Lk Ll hst => qL hS.ev hst.appF rfl fun hS => ?_))
 replace hS : Ss _ _ _ H [G2, G1, GC, GD, GE, GF, Lc, La] F _ _ := hS
 refine qF ?_
 replace hst := hS.st
 obtain ⟨hcl, hmust, hav2, hA⟩ := dn (vals' := [some (qS Gx 0), some (qS Gx 0), some (qS Gx 0), some (qS GO 2), some (.int .u32 Gv.more_), some (qS GO 1), some (.int .i64 Gv.bits_), some (.int .i64 Lh)]) 7 [(2, 7), (4, 7), (6, 7), (1, 2), (3, 4), (5, 6), (0, 1)] hA hcl hav hm hpre hk rfl rfl rfl rfl rfl rfl rfl
 clear hm hav
 refine x3 hA hst ho hcl hmust [] rfl rfl rfl trivial fun a w hS => ?_
 replace hS := hS.env2 (e' := []) trivial
 exact y4 (rs := []) hS rfl rfl (hret GQ Li Lj GI G1 G2 _ (qV hM) Lk Ll (hS.st.pick [0, 1, 2, 3, 4, 5] (by kernel_rfl)))
theorem jy {H : xR} {F : List qq} {w : World} {R : Ending → World → Prop} {kr : (Int × (List Int)) → Prop} {kp : Value → Prop} (hG : Gl H) (K : Nat) (Gu : qt) (Gv : List qr) (Gw : Nat) (LG : qq) (LH : Option Addr) (LI : Nat) (LJ : qq) (Gz : Option Addr) (GA : Nat) (GH : qq) (GB : Option Addr) (GC : Nat) (GI : qq) (GJ : Option Addr) (GK : Nat) (GL : qq) (GM : Option Addr) (GN : Nat) (GO : qq) (Ld : Option Addr) (Le : Nat) (LP : xZ LG Gw ([.int .i64 Gu.Writer_.place_.at_, .slice LH Gu.Writer_.bytes_.length LI, .slice Gz Gu.literals_.lengths_.length GA, .slice GB Gu.literals_.codes_.length GC, .slice GJ Gu.distances_.lengths_.length GK, .slice GM Gu.distances_.codes_.length GN]) 49) (LQ : xa 5 (ci .u8) 1 LH Gu.Writer_.bytes_ LI LJ) (G4 : xa 3 (ci .i64) 1 Gz Gu.literals_.lengths_ GA GH) (G5 : xa 3 (ci .i64) 1 GB Gu.literals_.codes_ GC GI) (G6 : xa 3 (ci .i64) 1 GJ Gu.distances_.lengths_ GK GL) (G7 : xa 3 (ci .i64) 1 GM Gu.distances_.codes_ GN GO) (Lu : jm H [] F qr.cells Ld Gv) (L7 : Gv.length ≤ Le)
    (hS : St w H [LG, LJ, GH, GI, GL, GO] F) (hm : (zt.m K Gu Gv).wp kr kp)
    (hret : ∀ (G8 : Int) (Lv : Option Addr) (Lw : Nat) (GU : (List Int)) (Lx : qq) (Ly : qq) (w : World), kr (G8, GU) → (xa 5 (ci .u8) 1 Lv GU Lw Lx) → (xZ Ly Gw ([.int .i64 G8, .slice Lv GU.length Lw, .slice Gz Gu.literals_.lengths_.length GA, .slice GB Gu.literals_.codes_.length GC, .slice GJ Gu.distances_.lengths_.length GK, .slice GM Gu.distances_.codes_.length GN]) 49) → St w H [Ly, Lx, GH, GI, GL, GO] F → R (.returned (.tuple ⟨[]⟩)) w) :
    Calls Tryd.prog 24 ⟨[qS Gw 0, .slice Ld Gv.length Le]⟩ w R := by
 refine enter Tryd.func24 rfl Tryd.ntmps24 rfl hS fun a w hS => ?_
 have hM := hm; clear hm
 rw [zt.m] at hM
 refine zg (fun a w => ∃ (GW : Int) (G9 : Option Addr) (La : Nat) (GD : (List Int)) (Lb : qq) (Lc : qq), Ss 49 [] [(0, qS Gw 0)] H [Lc, Lb, GH, GI, GL, GO] F a w ∧ (xa 5 (ci .u8) 1 G9 GD La Lb) ∧ (xZ Lc Gw ([.int .i64 GW, .slice G9 GD.length La, .slice Gz Gu.literals_.lengths_.length GA, .slice GB Gu.literals_.codes_.length GC, .slice GJ Gu.distances_.lengths_.length GK, .slice GM Gu.distances_.codes_.length GN]) 49) ∧ (zt.j2 K Gu GW GD).wp kr kp) (fun L8 LK => ?_) ?_
 ·refine wp_seq ?_
  refine zB <| sM hS rfl fun hS => sO hS (xY rfl Tryd.runUnderlying25) rfl fun hS => sM hS rfl fun hS => qF <| xw <| zk (fun Lz a w => ∃ (GG : Int) (GZ : Option Addr) (G0 : Nat) (Gy : (List Int)) (GX : qq) (GY : qq) (Gx : Int), Ss 49 [] [(0, qS Gw 0), (6, .slice Ld Gv.length Le), (7, .int .i64 (Gv.length : Int)), (8, .int .i64 Gx)] H [GY, GX, GH, GI, GL, GO] F a w ∧ (xa 5 (ci .u8) 1 GZ Gy G0 GX) ∧ (xZ GY Gw ([.int .i64 GG, .slice GZ Gy.length G0, .slice Gz Gu.literals_.lengths_.length GA, .slice GB Gu.literals_.codes_.length GC, .slice GJ Gu.distances_.lengths_.length GK, .slice GM Gu.distances_.codes_.length GN]) 49) ∧ (zt.l1 K Gu Gv Lz GG Gy Gx).wp kr kp) K ?_ ?_ ?_
  ·exact ⟨Gu.Writer_.place_.at_, LH, LI, Gu.Writer_.bytes_, LJ, LG, (0 : Int), hS.to [0, 1, 2, 3, 4, 5] (by kernel_rfl) ⟨rfl, rfl, rfl, rfl, trivial⟩, LQ, LP, hM⟩
  ·intro a w hI; obtain ⟨_, _, _, _, _, _, _, _, _, _, hM⟩ := hI; exact zj hM
  ·intro Lz a w hI L9 Lj
   obtain ⟨GG, GZ, G0, Gy, GX, GY, Gx, hS, G3, GV, hM⟩ := hI
   rw [zt.l1] at hM
   refine qp <| sB hS rfl fun hS => qF <| wp_seq <| qv hS rfl hM (fun LL hM => ?_) (fun LL hM => ?_)
   ·refine wp_skip ?_
    refine qd <| wp_seq <| xw <| wp_seq <| zB ?_
    obtain ⟨Lk, hM⟩ := qH hM
    refine sO hS (xM rfl rfl Tryd.runUnderlying25 Tryd.sizeOf32 Lu.wk (fun _ => rfl) rfl Lk) rfl fun hS => sO hS (yL rfl Lu.wk (fun _ => rfl) Lk Tryd.isAgg32 Tryd.sizeOf32 rfl) rfl fun hS => Qs ([.int .u8 (0 : Int), .int .i64 (0 : Int), .int .i64 (0 : Int)]) hS Tryd.zeroValue32 rfl rfl fun w GP Ma LM hS => uz 0 ([.int .u8 ((rd Gv Gx).Lit_), .int .i64 ((rd Gv Gx).Len_), .int .i64 ((rd Gv Gx).Dist_)]) ([.int .u8 ((rd Gv Gx).Lit_), .int .i64 ((rd Gv Gx).Len_), .int .i64 ((rd Gv Gx).Dist_)]) hS rfl rfl LM rfl rfl Tryd.sizeOf32 (by simp [Value.oneCell']) (Nat.le_of_ble_eq_true rfl) rfl fun w G2 G1 hS => qF <| wp_seq <| qp <| sO hS (xu rfl Tryd.runUnderlying32 rfl Tryd.sizeOf3 rfl) rfl fun hS => sO hS (xW 0 rfl G1 rfl rfl Tryd.isAgg3) rfl fun hS => sB hS rfl fun hS => qF <| qv hS rfl hM (fun LN hM => ?_) (fun LN hM => ?_)
    ·refine wp_seq ?_
     refine za (vals := [some (qS Gw 0), some (qS Gw 0), some (qS Gw 0), some (qS Gw 2), some (.agg ⟨[.slice Gz Gu.literals_.lengths_.length GA, .slice GB Gu.literals_.codes_.length GC]⟩), some (qS GP 0), some (.int .u8 ((rd Gv Gx).Lit_)), some (.int .i64 (wr .i64 (rd Gv Gx).Lit_)), none]) hS xp rfl ?_
     intro l w ho hcl hA hst
     refine jn hA hst ho hcl xv xo 8 [0, 1, 2, 3, 4, 5, 6, 7] rfl rfl rfl rfl rfl (by exact ⟨nM rfl, nM rfl, nQ rfl (by exact qU (yx rfl) rfl), nQ rfl (by exact qU (xu rfl Tryd.runUnderlying49 rfl Tryd.sizeOf47 rfl) rfl), nQ rfl (by exact qU (vF 1 rfl GV rfl ([.slice Gz Gu.literals_.lengths_.length GA, .slice GB Gu.literals_.codes_.length GC]) rfl rfl Tryd.isAgg47 Tryd.sizeOf47) rfl), nQ rfl (by exact qU (xu rfl Tryd.runUnderlying32 rfl Tryd.sizeOf5 rfl) rfl), nQ rfl (by exact qU (xW 0 rfl G1 rfl rfl Tryd.isAgg5) rfl), nQ rfl (by exact qU (vZ rfl Tryd.runUnderlying5 Tryd.runUnderlying3) rfl), trivial⟩) fun D l a w ho hcl hav hpre hm hE hk hA hst => ?_
     have hS := (Ss.mk hE hst).env2 (e' := [(15, qS Gw 0), (19, .agg ⟨[.slice Gz Gu.literals_.lengths_.length GA, .slice GB Gu.literals_.codes_.length GC]⟩), (22, .int .i64 (wr .i64 (rd Gv Gx).Lit_))]) ⟨rfl, rfl, rfl, trivial⟩
     refine q7 rfl <| qO hS rfl Tryd.call41 (yl hG K (qt.mk (qW.mk (q8.mk GG) Gy) Gu.literals_ Gu.distances_) Gu.literals_ (wr .i64 (rd Gv Gx).Lit_) Gw GY GZ G0 GX Gz GA GH GB GC GI GJ GK GL GM GN GO GV G3 G4 G5 G6 G7 (hS.st.part 6 [1, 2, 3, 4, 5, 6, 0] (by kernel_rfl)) (qE hM) (fun Lp LR LS Lf LA LB w hM LT LU hst => qL hS.ev hst.appF rfl fun hS => ?_))
     replace hS : Ss _ _ _ H [LB, LA, GH, GI, GL, GO, G2] F _ _ := hS
     refine qF ?_
     replace hst := hS.st
     obtain ⟨hcl, hmust, hav2, hA⟩ := dn (vals' := [some (qS Gw 0), some (qS Gw 0), some (qS Gw 0), some (qS Gw 2), some (.agg ⟨[.slice Gz Gu.literals_.lengths_.length GA, .slice GB Gu.literals_.codes_.length GC]⟩), some (qS GP 0), some (.int .u8 ((rd Gv Gx).Lit_)), some (.int .i64 (wr .i64 (rd Gv Gx).Lit_)), some (.tuple ⟨[]⟩)]) 8 [(0, 8), (4, 8), (7, 8), (3, 4), (6, 7), (2, 3), (5, 6), (1, 2)] hA hcl hav hm hpre hk rfl rfl rfl rfl rfl rfl rfl
     clear hm hav
     refine x3 hA hst ho hcl hmust [] rfl rfl rfl trivial fun a w hS => ?_
     replace hS := hS.env2 (e' := [(0, qS Gw 0), (6, .slice Ld Gv.length Le), (7, .int .i64 (Gv.length : Int)), (8, .int .i64 Gx)]) ⟨rfl, rfl, rfl, rfl, trivial⟩
     refine qd <| wp_exit <| qB (qY (qd ?_))
     refine zB <| sB hS rfl fun hS => sM hS rfl fun hS => zc <| qd ?_
     exact Lj _ _ ⟨Lp, LR, LS, Lf, LA, LB, (qh (Gx + (1 : Int))), hS.to [0, 1, 2, 3, 4, 5] (by kernel_rfl) ⟨rfl, rfl, rfl, rfl, trivial⟩, LT, LU, hM⟩
    ·refine wp_skip ?_
     refine qd <| wp_seq <| za (vals := [some (qS Gw 0), some (qS Gw 0), some (qS Gw 0), some (qS Gw 2), some (.agg ⟨[.slice Gz Gu.literals_.lengths_.length GA, .slice GB Gu.literals_.codes_.length GC]⟩), some (qS GP 1), some (.int .i64 ((rd Gv Gx).Len_)), none, none]) hS xp rfl ?_
     intro l w ho hcl hA hst
     refine jn hA hst ho hcl xv xo 7 [0, 1, 2, 3, 4, 5, 6] rfl rfl rfl rfl rfl (by exact ⟨nM rfl, nM rfl, nQ rfl (by exact qU (yx rfl) rfl), nQ rfl (by exact qU (xu rfl Tryd.runUnderlying49 rfl Tryd.sizeOf47 rfl) rfl), nQ rfl (by exact qU (vF 1 rfl GV rfl ([.slice Gz Gu.literals_.lengths_.length GA, .slice GB Gu.literals_.codes_.length GC]) rfl rfl Tryd.isAgg47 Tryd.sizeOf47) rfl), nQ rfl (by exact qU (xu rfl Tryd.runUnderlying32 rfl Tryd.sizeOf3 rfl) rfl), nQ rfl (by exact qU (xW 0 rfl G1 rfl rfl Tryd.isAgg3) rfl), trivial⟩) fun D l a w ho hcl hav hpre hm hE hk hA hst => ?_
     have hS := (Ss.mk hE hst).env2 (e' := [(30, .int .i64 ((rd Gv Gx).Len_))]) ⟨rfl, trivial⟩
     refine q7 rfl <| qO hS rfl Tryd.call35 (ue hG K ((rd Gv Gx).Len_) (hS.st.part 0 [0, 1, 2, 3, 4, 5, 6] (by kernel_rfl)) (qE hM) (fun GE GQ GR w hM  hst => qL hS.ev hst.appF rfl fun hS => ?_))
     replace hS : Ss _ _ _ H [G2, GY, GX, GH, GI, GL, GO] F _ _ := hS
     refine qF ?_
     replace hst := hS.st
     obtain ⟨hcl, hmust, hav2, hA⟩ := dn (vals' := [some (qS Gw 0), some (qS Gw 0), some (qS Gw 0), some (qS Gw 2), some (.agg ⟨[.slice Gz Gu.literals_.lengths_.length GA, .slice GB Gu.literals_.codes_.length GC]⟩), some (qS GP 1), some (.int .i64 ((rd Gv Gx).Len_)), some (.agg ⟨[.int .i64 GE, .int .i64 GQ, .int .u32 GR]⟩), none]) 7 [(6, 7), (5, 6)] hA hcl hav hm hpre hk rfl rfl rfl rfl rfl rfl rfl
     clear hm hav
     refine jn hA hst ho hcl hav2 hmust 8 [0, 1, 2, 3, 4] rfl rfl rfl rfl rfl (by exact ⟨nM rfl, nM rfl, nQ rfl (by exact qU (yx rfl) rfl), nQ rfl (by exact qU (xu rfl Tryd.runUnderlying49 rfl Tryd.sizeOf47 rfl) rfl), nQ rfl (by exact qU (vF 1 rfl GV rfl ([.slice Gz Gu.literals_.lengths_.length GA, .slice GB Gu.literals_.codes_.length GC]) rfl rfl Tryd.isAgg47 Tryd.sizeOf47) rfl), trivial⟩) fun D l a w ho hcl hav hpre hm hE hk hA hst => ?_
     have hS := (Ss.mk hE hst).env2 (e' := [(24, qS Gw 0), (28, .agg ⟨[.slice Gz Gu.literals_.lengths_.length GA, .slice GB Gu.literals_.codes_.length GC]⟩), (31, .agg ⟨[.int .i64 GE, .int .i64 GQ, .int .u32 GR]⟩)]) ⟨rfl, rfl, rfl, trivial⟩
     refine q7 rfl <| qO hS rfl Tryd.call50 (vD hG K (qt.mk (qW.mk (q8.mk GG) Gy) Gu.literals_ Gu.distances_) Gu.literals_ (xT.mk GE GQ GR) Gw GY GZ G0 GX Gz GA GH GB GC GI GJ GK GL GM GN GO GV G3 G4 G5 G6 G7 (hS.st.part 6 [1, 2, 3, 4, 5, 6, 0] (by kernel_rfl)) (qE hM) (fun Lq LV LW Lg Ll Lm w hM LX Ln hst => qL hS.ev hst.appF rfl fun hS => ?_))
     replace hS : Ss _ _ _ H [Lm, Ll, GH, GI, GL, GO, G2] F _ _ := hS
     refine qF ?_
     replace hst := hS.st
     obtain ⟨hcl, hmust, hav2, hA⟩ := dn (vals' := [some (qS Gw 0), some (qS Gw 0), some (qS Gw 0), some (qS Gw 2), some (.agg ⟨[.slice Gz Gu.literals_.lengths_.length GA, .slice GB Gu.literals_.codes_.length GC]⟩), some (qS GP 1), some (.int .i64 ((rd Gv Gx).Len_)), some (.agg ⟨[.int .i64 GE, .int .i64 GQ, .int .u32 GR]⟩), some (.tuple ⟨[]⟩)]) 8 [(0, 8), (4, 8), (7, 8), (3, 4), (6, 7), (2, 3), (5, 6), (1, 2)] hA hcl hav hm hpre hk rfl rfl rfl rfl rfl rfl rfl
     clear hm hav
     refine x3 hA hst ho hcl hmust [] rfl rfl rfl trivial fun a w hS => ?_
     replace hS := hS.env2 (e' := [(0, qS Gw 0), (5, qS GP 0), (6, .slice Ld Gv.length Le), (7, .int .i64 (Gv.length : Int)), (8, .int .i64 Gx)]) ⟨rfl, rfl, rfl, rfl, rfl, trivial⟩
     refine qd <| za (vals := [some (qS Gw 0), some (qS Gw 0), some (qS Gw 0), some (qS Gw 4), some (.agg ⟨[.slice GJ Gu.distances_.lengths_.length GK, .slice GM Gu.distances_.codes_.length GN]⟩), some (qS GP 2), some (.int .i64 ((rd Gv Gx).Dist_)), none, none]) hS xp rfl ?_
     intro l w ho hcl hA hst
     refine jn hA hst ho hcl xv xo 7 [0, 1, 2, 3, 4, 5, 6] rfl rfl rfl rfl rfl (by exact ⟨nM rfl, nM rfl, nQ rfl (by exact qU (yx rfl) rfl), nQ rfl (by exact qU (xu rfl Tryd.runUnderlying49 rfl Tryd.sizeOf47 rfl) rfl), nQ rfl (by exact qU (vF 0 rfl Ln rfl ([.slice GJ Gu.distances_.lengths_.length GK, .slice GM Gu.distances_.codes_.length GN]) rfl rfl Tryd.isAgg47 Tryd.sizeOf47) rfl), nQ rfl (by exact qU (xu rfl Tryd.runUnderlying32 rfl Tryd.sizeOf3 rfl) rfl), nQ rfl (by exact qU (xW 6 rfl G1 rfl rfl Tryd.isAgg3) rfl), trivial⟩) fun D l a w ho hcl hav hpre hm hE hk hA hst => ?_
     have hS := (Ss.mk hE hst).env2 (e' := [(39, .int .i64 ((rd Gv Gx).Dist_))]) ⟨rfl, trivial⟩
     refine q7 rfl <| qO hS rfl Tryd.call36 (vH hG K ((rd Gv Gx).Dist_) (hS.st.part 0 [0, 1, 2, 3, 4, 5, 6] (by kernel_rfl)) (qE hM) (fun GF GS GT w hM  hst => qL hS.ev hst.appF rfl fun hS => ?_))
     replace hS : Ss _ _ _ H [Lm, Ll, GH, GI, GL, GO, G2] F _ _ := hS
     refine qF ?_
     replace hst := hS.st
     obtain ⟨hcl, hmust, hav2, hA⟩ := dn (vals' := [some (qS Gw 0), some (qS Gw 0), some (qS Gw 0), some (qS Gw 4), some (.agg ⟨[.slice GJ Gu.distances_.lengths_.length GK, .slice GM Gu.distances_.codes_.length GN]⟩), some (qS GP 2), some (.int .i64 ((rd Gv Gx).Dist_)), some (.agg ⟨[.int .i64 GF, .int .i64 GS, .int .u32 GT]⟩), none]) 7 [(6, 7), (5, 6)] hA hcl hav hm hpre hk rfl rfl rfl rfl rfl rfl rfl
     clear hm hav
     refine jn hA hst ho hcl hav2 hmust 8 [0, 1, 2, 3, 4] rfl rfl rfl rfl rfl (by exact ⟨nM rfl, nM rfl, nQ rfl (by exact qU (yx rfl) rfl), nQ rfl (by exact qU (xu rfl Tryd.runUnderlying49 rfl Tryd.sizeOf47 rfl) rfl), nQ rfl (by exact qU (vF 0 rfl Ln rfl ([.slice GJ Gu.distances_.lengths_.length GK, .slice GM Gu.distances_.codes_.length GN]) rfl rfl Tryd.isAgg47 Tryd.sizeOf47) rfl), trivial⟩) fun D l a w ho hcl hav hpre hm hE hk hA hst => ?_
     have hS := (Ss.mk hE hst).env2 (e' := [(33, qS Gw 0), (37, .agg ⟨[.slice GJ Gu.distances_.lengths_.length GK, .slice GM Gu.distances_.codes_.length GN]⟩), (40, .agg ⟨[.int .i64 GF, .int .i64 GS, .int .u32 GT]⟩)]) ⟨rfl, rfl, rfl, trivial⟩
     refine q7 rfl <| qO hS rfl Tryd.call50 (vA hG K (qt.mk (qW.mk (q8.mk Lq) Lg) Gu.literals_ Gu.distances_) Gu.distances_ (xT.mk GF GS GT) Gw Lm LV LW Ll Gz GA GH GB GC GI GJ GK GL GM GN GO Ln LX G4 G5 G6 G7 (hS.st.part 6 [0, 1, 2, 3, 4, 5, 6] (by kernel_rfl)) (qE hM) (fun Lr LY LZ Lh LC LD w hM L0 L1 hst => qL hS.ev hst.appF rfl fun hS => ?_))
     replace hS : Ss _ _ _ H [LD, LC, GH, GI, GL, GO, G2] F _ _ := hS
     refine qF ?_
     replace hst := hS.st
     obtain ⟨hcl, hmust, hav2, hA⟩ := dn (vals' := [some (qS Gw 0), some (qS Gw 0), some (qS Gw 0), some (qS Gw 4), some (.agg ⟨[.slice GJ Gu.distances_.lengths_.length GK, .slice GM Gu.distances_.codes_.length GN]⟩), some (qS GP 2), some (.int .i64 ((rd Gv Gx).Dist_)), some (.agg ⟨[.int .i64 GF, .int .i64 GS, .int .u32 GT]⟩), some (.tuple ⟨[]⟩)]) 8 [(0, 8), (4, 8), (7, 8), (3, 4), (6, 7), (2, 3), (5, 6), (1, 2)] hA hcl hav hm hpre hk rfl rfl rfl rfl rfl rfl rfl
     clear hm hav
     refine x3 hA hst ho hcl hmust [] rfl rfl rfl trivial fun a w hS => ?_
     replace hS := hS.env2 (e' := [(0, qS Gw 0), (6, .slice Ld Gv.length Le), (7, .int .i64 (Gv.length : Int)), (8, .int .i64 Gx)]) ⟨rfl, rfl, rfl, rfl, trivial⟩
     refine zr (qd ?_)
     refine zB <| sB hS rfl fun hS => sM hS rfl fun hS => zc <| qd ?_
     exact Lj _ _ ⟨Lr, LY, LZ, Lh, LC, LD, (qh (Gx + (1 : Int))), hS.to [0, 1, 2, 3, 4, 5] (by kernel_rfl) ⟨rfl, rfl, rfl, rfl, trivial⟩, L0, L1, hM⟩
   ·refine wp_exit ?_
    refine qB (qB (qY (qd ?_)))
    exact LK _ _ ⟨GG, GZ, G0, Gy, GX, GY, hS.to [0, 1, 2, 3, 4, 5] (by kernel_rfl) ⟨rfl, trivial⟩, G3, GV, hM⟩
 ·intro a w hI
  obtain ⟨GW, G9, La, GD, Lb, Lc, hS, LO, Lo, hM⟩ := hI
  rw [zt.j2] at hM
  refine zB <| sM hS rfl fun hS => sM hS rfl fun hS => sO hS (yx rfl) rfl fun hS => sO hS (xu rfl Tryd.runUnderlying49 rfl Tryd.sizeOf47 rfl) rfl fun hS => sO hS (vF 0 rfl Lo rfl ([.slice Gz Gu.literals_.lengths_.length GA, .slice GB Gu.literals_.codes_.length GC]) rfl rfl Tryd.isAgg47 Tryd.sizeOf47) rfl fun hS => qO hS rfl Tryd.call41 (yl hG K (qt.mk (qW.mk (q8.mk GW) GD) Gu.literals_ Gu.distances_) Gu.literals_ (256 : Int) Gw Lc G9 La Lb Gz GA GH GB GC GI GJ GK GL GM GN GO Lo LO G4 G5 G6 G7 (hS.st.part 6 [0, 1, 2, 3, 4, 5] (by kernel_rfl)) (qE hM) (fun Lt L3 L4 Li LE LF w hM L5 L6 hst => qL hS.ev hst.appF rfl fun hS => ?_))
  replace hS : Ss _ _ _ H [LF, LE, GH, GI, GL, GO] F _ _ := hS
  refine zc ?_
  exact y4 (rs := []) hS rfl rfl (hret Lt L3 L4 Li LE LF _ (qV hM) L5 L6 (hS.st.pick [0, 1, 2, 3, 4, 5] (by kernel_rfl)))
theorem yr {H : xR} {F : List qq} {w : World} {R : Ending → World → Prop} {kr : (List UInt8) → Prop} {kp : Value → Prop} (hG : Gl H) (K : Nat) (Gu : qt) (GB : Nat) (Gv : qq) (GC : Option Addr) (GD : Nat) (Gw : qq) (GE : Option Addr) (GF : Nat) (Gx : qq) (GG : Option Addr) (GH : Nat) (Gy : qq) (GI : Option Addr) (GJ : Nat) (Gz : qq) (GK : Option Addr) (GL : Nat) (GA : qq) (GN : xZ Gv GB ([.int .i64 Gu.Writer_.place_.at_, .slice GC Gu.Writer_.bytes_.length GD, .slice GE Gu.literals_.lengths_.length GF, .slice GG Gu.literals_.codes_.length GH, .slice GI Gu.distances_.lengths_.length GJ, .slice GK Gu.distances_.codes_.length GL]) 49) (GO : xa 5 (ci .u8) 1 GC Gu.Writer_.bytes_ GD Gw) (GQ : xa 3 (ci .i64) 1 GE Gu.literals_.lengths_ GF Gx) (GR : xa 3 (ci .i64) 1 GG Gu.literals_.codes_ GH Gy) (GS : xa 3 (ci .i64) 1 GI Gu.distances_.lengths_ GJ Gz) (GT : xa 3 (ci .i64) 1 GK Gu.distances_.codes_ GL GA)
    (hS : St w H [Gv, Gw, Gx, Gy, Gz, GA] F) (hm : (z3.m K Gu).wp kr kp)
    (hret : ∀ (GM : List UInt8) (w : World), kr GM → St w H [Gv, Gw, Gx, Gy, Gz, GA] F → R (.returned (yc GM)) w) :
    Calls Tryd.prog 25 ⟨[qS GB 0]⟩ w R := by
 refine enter Tryd.func25 rfl Tryd.ntmps25 rfl hS fun a w hS => ?_
 have hM := hm; clear hm
 rw [z3.m] at hM
 refine qp <| sA hS rfl fun hS => qF <| wp_seq <| qp <| sM hS rfl fun hS => sO hS (By rfl rfl Tryd.runUnderlying103) rfl fun hS => qF <| K5 hS rfl <| wp_skip <| qd <| qp <| sM hS rfl fun hS => sO hS (yx rfl) rfl fun hS => sO hS (xu rfl Tryd.runUnderlying44 rfl Tryd.sizeOf38 rfl) rfl fun hS => sO hS (xW 0 rfl GN rfl rfl Tryd.isAgg38) rfl fun hS => sO hS (DD rfl Tryd.runUnderlying38 Tryd.runUnderlying5 Tryd.runUnderlying9 (GO.rd (i := 1) rfl)) rfl fun hS => zz (v := yc) (x0 := (Gu.Writer_.bytes_.map ZX)) hS (xj rfl) rfl fun GP a w hz hS => ?_
 have hM := qC hz hM; clear hz
 refine qF <| wp_ret ?_
 exact zm (rs := [2]) hS rfl rfl (hret GP _ (qV hM) (hS.st.pick [0, 1, 2, 3, 4, 5] (by kernel_rfl)))
theorem uN {H : xR} {F : List qq} {w : World} {R : Ending → World → Prop} {kr : ((List UInt8) × Int) → Prop} {kp : Value → Prop} (hG : Gl H) (K : Nat) (GC : List qr) (G8 : Option Addr) (G9 : Nat) (GX : jm H [] F qr.cells G8 GC) (GY : GC.length ≤ G9)
    (hS : St w H [] F) (hm : (jo.m K GC).wp kr kp)
    (hret : ∀ (GQ : List UInt8) (GR : Int) (w : World), kr (GQ, GR) → St w H [] F → R (.returned (.tuple ⟨[yc GQ, .int .i64 GR]⟩)) w) :
    Calls Tryd.prog 12 ⟨[.slice G8 GC.length G9]⟩ w R := by
 refine enter Tryd.func12 rfl Tryd.ntmps12 rfl hS fun a w hS => ?_
 have hM := hm; clear hm
 rw [jo.m] at hM
 refine qp <| sA hS rfl fun hS => sA hS rfl fun hS => qF <| wp_seq <| qp <| sM hS rfl fun hS => qO hS rfl Tryd.call21 (Qh hG K GC G8 G9 (GX.app _) GY (hS.st.part 0 [] (by kernel_rfl)) (qE hM) (fun Lw w hM  hst => qL hS.ev hst.appF rfl fun hS => ?_))
 replace hS : Ss _ _ _ H [] F _ _ := hS
 refine sO hS (un rfl rfl) rfl fun hS => qF <| qv hS rfl hM (fun Le hM => ?_) (fun Le hM => ?_)
 ·refine wp_seq ?_
  refine zB <| sA hS rfl fun hS => sA hS rfl fun hS => qF <| wp_ret <| qz ?_
  exact zm (rs := [2, 3]) hS rfl rfl (hret ([] : List UInt8) (1 : Int) _ (qV hM) (hS.st.pick [] (by kernel_rfl)))
 ·refine wp_skip ?_
  refine qd <| qp <| sO hS (Zx ([.int .i64 (0 : Int), .slice none 0 0, .slice none 0 0, .slice none 0 0, .slice none 0 0, .slice none 0 0]) [(0, 2), (2, 2), (4, 2)] Tryd.zeroValue49 Tryd.runUnderlying49 (by intro w; simp [Tryd.sizeOf44, Tryd.sizeOf47]) rfl rfl) rfl fun hS => bx ([.int .i64 (0 : Int), .slice none 0 0, .slice none 0 0, .slice none 0 0, .slice none 0 0, .slice none 0 0]) hS rfl rfl rfl fun w Lf Lo Lg hS => ?_
  obtain ⟨Ln, Lh, hS⟩ := hS.nilV 5 (ci .u8) 1
  obtain ⟨La, Lp, hS⟩ := hS.nilV 3 (ci .i64) 1
  obtain ⟨Lb, Lq, hS⟩ := hS.nilV 3 (ci .i64) 1
  obtain ⟨Lc, Lr, hS⟩ := hS.nilV 3 (ci .i64) 1
  obtain ⟨Ld, Lt, hS⟩ := hS.nilV 3 (ci .i64) 1
  refine sA hS rfl fun hS => qF <| qp <| sM hS rfl fun hS => sM hS rfl fun hS => qO hS rfl Tryd.call22 (u6 hG K  (hS.st.part 0 [0, 1, 2, 3, 4, 5] (by kernel_rfl)) (qE hM) (fun GD GE Gu Gy GF GG Gw Gz GI GJ Gv GA GK GL Gx GB w hM GS GT GU GV hst => qL hS.ev hst.appF rfl fun hS => ?_))
  replace hS : Ss _ _ _ H [Gy, Gz, GA, GB, Ld, Lc, Lb, La, Ln, Lo] F _ _ := hS
  refine sM hS rfl fun hS => sO hS (ex rfl rfl) rfl fun hS => sO hS (ex rfl rfl) rfl fun hS => sO hS (yx rfl) rfl fun hS => sO hS (xu rfl Tryd.runUnderlying49 rfl Tryd.sizeOf47 rfl) rfl fun hS => uz 9 ([.slice GD Gu.length GE, .slice GF Gw.length GG]) ([.int .i64 (0 : Int), .slice none ([] : List Int).length (0), .slice GD Gu.length GE, .slice GF Gw.length GG, .slice none ([] : List Int).length (0), .slice none ([] : List Int).length (0)]) hS rfl rfl Lg rfl rfl Tryd.sizeOf47 (by simp [Value.oneCell']) (Nat.le_of_ble_eq_true rfl) rfl fun w Lu GZ hS => sO hS (yx rfl) rfl fun hS => sO hS (xu rfl Tryd.runUnderlying49 rfl Tryd.sizeOf47 rfl) rfl fun hS => uz 9 ([.slice GI Gv.length GJ, .slice GK Gx.length GL]) ([.int .i64 (0 : Int), .slice none ([] : List Int).length (0), .slice GD Gu.length GE, .slice GF Gw.length GG, .slice GI Gv.length GJ, .slice GK Gx.length GL]) hS rfl rfl GZ rfl rfl Tryd.sizeOf47 (by simp [Value.oneCell']) (Nat.le_of_ble_eq_true rfl) rfl fun w Li G0 hS => qF <| qp <| sM hS rfl fun hS => sO hS (yx rfl) rfl fun hS => sO hS (xu rfl Tryd.runUnderlying49 rfl Tryd.sizeOf44 rfl) rfl fun hS => qO hS rfl Tryd.call23 (zo hG K (qt.mk (qW.mk (q8.mk (0 : Int)) ([] : List Int)) (qx.mk Gu Gw) (qx.mk Gv Gx)) (3 : Int) (3 : Int) Lf Li none (0) Ln GD GE Gy GF GG Gz GI GJ GA GK GL GB G0 Lh GS GT GU GV (hS.st.part 6 [9, 8, 0, 1, 2, 3, 4, 5, 6, 7] (by kernel_rfl)) (qE hM) (fun Lv GW Lj Lk GM G1 G2 w hM Ll Lm hst => qL hS.ev hst.appF rfl fun hS => ?_))
  replace hS : Ss _ _ _ H [G2, G1, Gy, Gz, GA, GB, Ld, Lc, Lb, La] F _ _ := hS
  refine qF <| qp <| sM hS rfl fun hS => sM hS rfl fun hS => qO hS rfl Tryd.call24 (jy hG K (qt.mk (qW.mk (q8.mk GW) GM) (qx.mk Gu Gw) (qx.mk Gv Gx)) GC Lf G2 Lj Lk G1 GD GE Gy GF GG Gz GI GJ GA GK GL GB G8 G9 Lm Ll GS GT GU GV (GX.app _) GY (hS.st.part 6 [0, 1, 2, 3, 4, 5, 6, 7, 8, 9] (by kernel_rfl)) (qE hM) (fun GP G3 G4 GH GN GO w hM G5 G6 hst => qL hS.ev hst.appF rfl fun hS => ?_))
  replace hS : Ss _ _ _ H [GO, GN, Gy, Gz, GA, GB, Ld, Lc, Lb, La] F _ _ := hS
  refine qF <| qp <| sM hS rfl fun hS => sO hS (yx rfl) rfl fun hS => sO hS (xu rfl Tryd.runUnderlying49 rfl Tryd.sizeOf44 rfl) rfl fun hS => qO hS rfl Tryd.call25 (yr hG K (qt.mk (qW.mk (q8.mk GP) GH) (qx.mk Gu Gw) (qx.mk Gv Gx)) Lf GO G3 G4 GN GD GE Gy GF GG Gz GI GJ GA GK GL GB G6 G5 GS GT GU GV (hS.st.part 6 [0, 1, 2, 3, 4, 5, 6, 7, 8, 9] (by kernel_rfl)) (qE hM) (fun G7 w hM  hst => qL hS.ev hst.appF rfl fun hS => ?_))
  replace hS : Ss _ _ _ H [GO, GN, Gy, Gz, GA, GB, Ld, Lc, Lb, La] F _ _ := hS
  refine sA hS rfl fun hS => sA hS rfl fun hS => qF <| wp_ret ?_
  exact zm (rs := [2, 3]) hS rfl rfl (hret G7 (0 : Int) _ (qV hM) (hS.st.pick [] (by kernel_rfl)))
theorem Zn {H : xR} {F : List qq} {w : World} {R : Ending → World → Prop} {kr : Bool → Prop} {kp : Value → Prop} (hG : Gl H) (K : Nat) (Gu : Int)
    (hS : St w H [] F) (hm : (jG.m K Gu).wp kr kp)
    (hret : ∀ (Gv : Bool) (w : World), kr Gv → St w H [] F → R (.returned (.bool Gv)) w) :
    Calls Tryd.prog 55 ⟨[.int .i64 Gu]⟩ w R := by
 refine enter Tryd.func55 rfl Tryd.ntmps55 rfl hS fun a w hS => ?_
 have hM := hm; clear hm
 rw [jG.m] at hM
 refine qp <| sA hS rfl fun hS => qF <| qp <| sM hS rfl fun hS => sB hS rfl fun hS => sM hS rfl fun hS => yo 2 false 5 (b := (decide (Gu < (0 : Int)))) (r := (decide (Gu > (1099511627776 : Int)))) hS rfl rfl rfl rfl rfl rfl rfl (fun hb a w hS K hK => ?_) rfl fun a w hS => ?_
 ·refine zL hS rfl rfl rfl hb (mv rfl) rfl fun a w hS => ?_
  refine zL hS rfl rfl rfl hb (yU rfl rfl rfl) rfl fun a w hS => ?_
  exact zc (hK _ _ (hS.up 2 rfl rfl))
 refine zz (v := Value.bool) (x0 := ((decide (Gu < (0 : Int))) || (decide (Gu > (1099511627776 : Int))))) hS (xj rfl) rfl fun Gw a w hz hS => ?_
 have hM := qC hz hM; clear hz
 refine qF <| wp_ret ?_
 exact zm (rs := [2]) hS rfl rfl (hret Gw _ (qV hM) (hS.st.pick [] (by kernel_rfl)))
theorem jt {H : xR} {F : List qq} {w : World} {R : Ending → World → Prop} {kr : Int → Prop} {kp : Value → Prop} (hG : Gl H) (K : Nat) (Gu : List Int) (Gw : Option Addr) (Gx : Nat) (Gy : jm H [] F (ci .i64) Gw Gu) (GF : Gu.length ≤ Gx)
    (hS : St w H [] F) (hm : (zK.m K Gu).wp kr kp)
    (hret : ∀ (GA : Int) (w : World), kr GA → St w H [] F → R (.returned (.int .i64 GA)) w) :
    Calls Tryd.prog 80 ⟨[.slice Gw Gu.length Gx, yy 55 [] []]⟩ w R := by
 refine enter Tryd.func80 rfl Tryd.ntmps80 rfl hS fun a w hS => ?_
 have hM := hm; clear hm
 rw [zK.m] at hM
 refine qp <| sA hS rfl fun hS => qF <| wp_seq <| qp <| sM hS rfl fun hS => sO hS (xY rfl Tryd.runUnderlying45) rfl fun hS => sM hS rfl fun hS => qF <| xw <| zk (fun GB a w => ∃ (Gv : Int), Ss 19 [] [(0, .slice Gw Gu.length Gx), (1, yy 55 [] []), (7, .int .i64 (Gu.length : Int)), (8, .int .i64 Gv)] H [] F a w ∧ (zK.l1 K Gu GB Gv).wp kr kp) K ?_ ?_ ?_
 ·exact ⟨(0 : Int), hS.to [] (by kernel_rfl) ⟨rfl, rfl, rfl, rfl, trivial⟩, hM⟩
 ·intro a w hI; obtain ⟨_, _, hM⟩ := hI; exact zj hM
 ·intro GB a w hI GG GC
  obtain ⟨Gv, hS, hM⟩ := hI
  rw [zK.l1] at hM
  refine qp <| sB hS rfl fun hS => qF <| wp_seq <| qv hS rfl hM (fun GD hM => ?_) (fun GD hM => ?_)
  ·refine wp_skip ?_
   refine qd <| wp_seq <| xw <| qp <| sM hS rfl fun hS => sA hS rfl fun hS => qF <| qp <| sM hS rfl fun hS => sM hS rfl fun hS => sM hS rfl fun hS => ?_
   obtain ⟨Gz, hM⟩ := qH hM
   refine sO hS (xM rfl rfl Tryd.runUnderlying45 Tryd.sizeOf3 Gy.wk (fun _ => rfl) rfl Gz) rfl fun hS => sO hS (yd rfl Gy.wk (fun _ => rfl) Gz rfl Tryd.isAgg3) rfl fun hS => vg hS rfl rfl Tryd.call55 (Zn hG K (rd Gu Gv) (hS.st.part 0 [] (by kernel_rfl)) (qE hM) (fun GH w hM  hst => qL hS.ev hst.appF rfl fun hS => ?_))
   replace hS : Ss _ _ _ H [] F _ _ := hS
   refine qF <| qv hS rfl hM (fun GE hM => ?_) (fun GE hM => ?_)
   ·refine wp_seq ?_
    refine zB <| sM hS rfl fun hS => sA hS rfl fun hS => qF <| wp_ret <| zS (qz (qz (zS (qz ?_))))
    exact zm (rs := [4]) hS rfl rfl (hret Gv _ (qV hM) (hS.st.pick [] (by kernel_rfl)))
   ·refine wp_skip ?_
    refine zr (qd ?_)
    refine zB <| sB hS rfl fun hS => sM hS rfl fun hS => zc <| qd ?_
    exact GC _ _ ⟨(qh (Gv + (1 : Int))), hS.to [] (by kernel_rfl) ⟨rfl, rfl, rfl, rfl, trivial⟩, hM⟩
  ·refine wp_exit ?_
   refine qB (qB (qY (qd ?_)))
   refine qp <| sA hS rfl fun hS => qF <| wp_ret ?_
   exact zm (rs := [4]) hS rfl rfl (hret (-1 : Int) _ (qV hM) (hS.st.pick [] (by kernel_rfl)))
theorem je {H : xR} {F : List qq} {w : World} {R : Ending → World → Prop} {kr : Bool → Prop} {kp : Value → Prop} (hG : Gl H) (K : Nat) (Gu : List Int) (Gv : Option Addr) (Gw : Nat) (Gy : jm H [] F (ci .i64) Gv Gu) (Gz : Gu.length ≤ Gw)
    (hS : St w H [] F) (hm : (xA.m K Gu).wp kr kp)
    (hret : ∀ (Gx : Bool) (w : World), kr Gx → St w H [] F → R (.returned (.bool Gx)) w) :
    Calls Tryd.prog 54 ⟨[.slice Gv Gu.length Gw, yy 55 [] []]⟩ w R := by
 refine enter Tryd.func54 rfl Tryd.ntmps54 rfl hS fun a w hS => ?_
 have hM := hm; clear hm
 rw [xA.m] at hM
 refine qp <| sA hS rfl fun hS => qF <| qp <| sM hS rfl fun hS => sM hS rfl fun hS => qO hS rfl Tryd.call80 (jt hG K Gu Gv Gw (Gy.app _) Gz (hS.st.part 0 [] (by kernel_rfl)) (qE hM) (fun GA w hM  hst => qL hS.ev hst.appF rfl fun hS => ?_))
 replace hS : Ss _ _ _ H [] F _ _ := hS
 refine sB hS rfl fun hS => zz (v := Value.bool) (x0 := (decide (GA ≥ (0 : Int)))) hS (xj rfl) rfl fun GB a w hz hS => ?_
 have hM := qC hz hM; clear hz
 refine qF <| wp_ret ?_
 exact zm (rs := [4]) hS rfl rfl (hret GB _ (qV hM) (hS.st.pick [] (by kernel_rfl)))
def qg (p : qq) (x : qb) (vs : List Value) : Prop :=
  ∃ (A0 : Option Addr) (c0 : Nat), vs = [.int .i64 x.often_, .slice A0 x.symbols_.length c0] ∧ Pl p (ci .i64) A0 x.symbols_ ∧ x.symbols_.length ≤ c0
theorem qg.mono {p p' : qq} (hs : ∀ q ∈ p, q ∈ p') {x : qb} {vs : List Value} (h : qg p x vs) : qg p' x vs := by
  obtain ⟨A0, c0, h0, h1, h2⟩ := h
  exact ⟨A0, c0, h0, h1.mono hs, h2⟩
theorem v6 {H : xR} {F : List qq} {w : World} {R : Ending → World → Prop} {kr : Bool → Prop} {kp : Value → Prop} (hG : Gl H) (K : Nat) (Gu : Int)
    (hS : St w H [] F) (hm : (y9.m K Gu).wp kr kp)
    (hret : ∀ (Gv : Bool) (w : World), kr Gv → St w H [] F → R (.returned (.bool Gv)) w) :
    Calls Tryd.prog 82 ⟨[.int .i64 Gu]⟩ w R := by
 refine enter Tryd.func82 rfl Tryd.ntmps82 rfl hS fun a w hS => ?_
 have hM := hm; clear hm
 rw [y9.m] at hM
 refine qp <| sA hS rfl fun hS => qF <| qp <| sM hS rfl fun hS => sM hS rfl fun hS => sB hS rfl fun hS => zz (v := Value.bool) (x0 := (Gu != Gu)) hS (xj rfl) rfl fun Gw a w hz hS => ?_
 have hM := qC hz hM; clear hz
 refine qF <| wp_ret ?_
 exact zm (rs := [2]) hS rfl rfl (hret Gw _ (qV hM) (hS.st.pick [] (by kernel_rfl)))
theorem vy {H : xR} {F : List qq} {w : World} {R : Ending → World → Prop} {kr : Int → Prop} {kp : Value → Prop} (hG : Gl H) (K : Nat) (Gu : Int) (Gv : Int)
    (hS : St w H [] F) (hm : (yw.m K Gu Gv).wp kr kp)
    (hret : ∀ (Gw : Int) (w : World), kr Gw → St w H [] F → R (.returned (.int .i64 Gw)) w) :
    Calls Tryd.prog 58 ⟨[.int .i64 Gu, .int .i64 Gv]⟩ w R := by
 refine enter Tryd.func58 rfl Tryd.ntmps58 rfl hS fun a w hS => ?_
 have hM := hm; clear hm
 rw [yw.m] at hM
 refine qp <| sA hS rfl fun hS => qF <| qp <| sM hS rfl fun hS => qO hS rfl Tryd.call82 (v6 hG K Gu (hS.st.part 0 [] (by kernel_rfl)) (qE hM) (fun GC w hM  hst => qL hS.ev hst.appF rfl fun hS => ?_))
 replace hS : Ss _ _ _ H [] F _ _ := hS
 refine sA hS rfl fun hS => qF <| qp <| sM hS rfl fun hS => qO hS rfl Tryd.call82 (v6 hG K Gv (hS.st.part 0 [] (by kernel_rfl)) (qE hM) (fun GD w hM  hst => qL hS.ev hst.appF rfl fun hS => ?_))
 replace hS : Ss _ _ _ H [] F _ _ := hS
 refine sA hS rfl fun hS => qF <| wp_seq <| qp <| sM hS rfl fun hS => qF <| qv hS rfl hM (fun Gx hM => ?_) (fun Gx hM => ?_)
 ·refine wp_seq ?_
  refine qp <| sM hS rfl fun hS => qF <| qv hS rfl hM (fun Gy hM => ?_) (fun Gy hM => ?_)
  ·refine wp_seq ?_
   refine zB <| sA hS rfl fun hS => qF <| wp_ret <| qz (qz ?_)
   exact zm (rs := [4]) hS rfl rfl (hret (0 : Int) _ (qV hM) (hS.st.pick [] (by kernel_rfl)))
  ·refine wp_skip ?_
   refine qd <| qp <| sA hS rfl fun hS => qF <| wp_ret <| qz ?_
   exact zm (rs := [4]) hS rfl rfl (hret (-1 : Int) _ (qV hM) (hS.st.pick [] (by kernel_rfl)))
 ·refine wp_skip ?_
  refine qd <| wp_seq <| qp <| sM hS rfl fun hS => qF <| qv hS rfl hM (fun Gz hM => ?_) (fun Gz hM => ?_)
  ·refine wp_seq ?_
   refine zB <| sA hS rfl fun hS => qF <| wp_ret <| qz ?_
   exact zm (rs := [4]) hS rfl rfl (hret (1 : Int) _ (qV hM) (hS.st.pick [] (by kernel_rfl)))
  ·refine wp_skip ?_
   refine qd <| wp_seq <| qp <| sM hS rfl fun hS => sM hS rfl fun hS => sB hS rfl fun hS => qF <| qv hS rfl hM (fun GA hM => ?_) (fun GA hM => ?_)
   ·refine wp_seq ?_
    refine zB <| sA hS rfl fun hS => qF <| wp_ret <| qz ?_
    exact zm (rs := [4]) hS rfl rfl (hret (-1 : Int) _ (qV hM) (hS.st.pick [] (by kernel_rfl)))
   ·refine wp_skip ?_
    refine qd <| wp_seq <| qp <| sM hS rfl fun hS => sM hS rfl fun hS => sB hS rfl fun hS => qF <| qv hS rfl hM (fun GB hM => ?_) (fun GB hM => ?_)
    ·refine wp_seq ?_
     refine zB <| sA hS rfl fun hS => qF <| wp_ret <| qz ?_
     exact zm (rs := [4]) hS rfl rfl (hret (1 : Int) _ (qV hM) (hS.st.pick [] (by kernel_rfl)))
    ·refine wp_skip ?_
     refine qd <| qp <| sA hS rfl fun hS => qF <| wp_ret ?_
     exact zm (rs := [4]) hS rfl rfl (hret (0 : Int) _ (qV hM) (hS.st.pick [] (by kernel_rfl)))
theorem jc {H : xR} {F : List qq} {w : World} {R : Ending → World → Prop} {kr : Int → Prop} {kp : Value → Prop} (hG : Gl H) (K : Nat) (Gu : qb) (Gv : qb) (Gw : Option Addr) (Gx : Nat) (Gy : Option Addr) (Gz : Nat) (GG : jm H [] F (ci .i64) Gw Gu.symbols_) (GH : Gu.symbols_.length ≤ Gx) (GI : jm H [] F (ci .i64) Gy Gv.symbols_) (GJ : Gv.symbols_.length ≤ Gz)
    (hS : St w H [] F) (hm : (yi.m K Gu Gv).wp kr kp)
    (hret : ∀ (GA : Int) (w : World), kr GA → St w H [] F → R (.returned (.int .i64 GA)) w) :
    Calls Tryd.prog 57 ⟨[.agg ⟨[.int .i64 Gu.often_, .slice Gw Gu.symbols_.length Gx]⟩, .agg ⟨[.int .i64 Gv.often_, .slice Gy Gv.symbols_.length Gz]⟩]⟩ w R := by
 refine enter Tryd.func57 rfl Tryd.ntmps57 rfl hS fun a w hS => ?_
 have hM := hm; clear hm
 rw [yi.m] at hM
 refine qp <| bx ([.int .i64 Gu.often_, .slice Gw Gu.symbols_.length Gx]) hS rfl rfl rfl fun w GK GD GB hS => bx ([.int .i64 Gv.often_, .slice Gy Gv.symbols_.length Gz]) hS rfl rfl rfl fun w GL GE GC hS => sA hS rfl fun hS => qF <| qp <| sO hS (xu rfl Tryd.runUnderlying112 rfl Tryd.sizeOf3 rfl) rfl fun hS => sO hS (xW 1 rfl GB rfl rfl Tryd.isAgg3) rfl fun hS => sO hS (xu rfl Tryd.runUnderlying112 rfl Tryd.sizeOf3 rfl) rfl fun hS => sO hS (xW 0 rfl GC rfl rfl Tryd.isAgg3) rfl fun hS => qO hS rfl Tryd.call58 (vy hG K Gu.often_ Gv.often_ (hS.st.part 0 [0, 1] (by kernel_rfl)) (qE hM) (fun GF w hM  hst => qL hS.ev hst.appF rfl fun hS => ?_))
 replace hS : Ss _ _ _ H [GE, GD] F _ _ := hS
 refine sA hS rfl fun hS => qF <| wp_ret ?_
 exact zm (rs := [4]) hS rfl rfl (hret GF _ (qV hM) (hS.st.pick [] (by kernel_rfl)))
theorem xH {H : xR} {F : List qq} {w : World} {R : Ending → World → Prop} {kr : (List qb) → Prop} {kp : Value → Prop} (hG : Gl H) (K : Nat) (GI : List qb) (Gz : Int) (GB : Int) (GD : qq) (Gw : Option Addr) (Gy : Nat) (GF : List (zv 2)) (G5 : qq) (Lj : zw (qg GD) GI GF) (Lk : xa 112 (zv.v (sz := 2)) 2 Gw GF Gy G5)
    (hS : St w H [GD, G5] F) (hm : (qe.m K GI Gz GB).wp kr kp)
    (hret : ∀ (GU : List (zv 2)) (GQ : (List qb)) (Li : qq) (w : World), kr GQ → (xa 112 (zv.v (sz := 2)) 2 Gw GU Gy Li) → (zw (qg GD) GQ GU) → (GU.length = GF.length) → St w H [GD, Li] F → R (.returned (.tuple ⟨[]⟩)) w) :
    Calls Tryd.prog 99 ⟨[.slice Gw GF.length Gy, .int .i64 Gz, .int .i64 GB, yy 57 [] []]⟩ w R := by
 refine enter Tryd.func99 rfl Tryd.ntmps99 rfl hS fun a w hS => ?_
 have hM := hm; clear hm
 rw [qe.m] at hM
 have LM : ∀ q ∈ GD, q ∈ GD := fun _ h => h
 have Ll : GF.length = GF.length := rfl
 refine qp <| sM hS rfl fun hS => sB hS rfl fun hS => zz (v := Value.int .i64) (x0 := (qh (Gz + (1 : Int)))) hS (xj rfl) rfl fun LI a w hz hS => ?_
 have hM := qC hz hM; clear hz
 refine qF <| xw <| zk (fun GR a w => ∃ (GH : List (zv 2)) (GG : (List qb)) (GS : qq) (GE : Int), Ss 53 [] [(0, .slice Gw GH.length Gy), (1, .int .i64 Gz), (2, .int .i64 GB), (3, yy 57 [] []), (8, .int .i64 GE)] H [GD, GS] F a w ∧ (xa 112 (zv.v (sz := 2)) 2 Gw GH Gy GS) ∧ (zw (qg GD) GG GH) ∧ (GH.length = GF.length) ∧ (qe.l1 K Gz GB GR GG GE).wp kr kp) K ?_ ?_ ?_
 ·exact ⟨GF, GI, G5, LI, hS.to [0, 1] (by kernel_rfl) ⟨rfl, rfl, rfl, rfl, rfl, trivial⟩, Lk, Lj, Ll, hM⟩
 ·intro a w hI; obtain ⟨_, _, _, _, _, _, _, _, hM⟩ := hI; exact zj hM
 ·intro GR a w hI LN Lm
  obtain ⟨GH, GG, GS, GE, hS, G6, G7, G8, hM⟩ := hI
  rw [qe.l1] at hM
  refine wp_seq <| qp <| sM hS rfl fun hS => sM hS rfl fun hS => sB hS rfl fun hS => qF <| qv hS rfl hM (fun Ln hM => ?_) (fun Ln hM => ?_)
  ·refine wp_skip ?_
   refine qd <| wp_seq <| xw <| qp <| sM hS rfl fun hS => sA hS rfl fun hS => qF <| xw <| zk (fun G9 a w => ∃ (Gx : List (zv 2)) (Gu : (List qb)) (GO : qq) (Gv : Int), Ss 53 [] [(0, .slice Gw Gx.length Gy), (1, .int .i64 Gz), (2, .int .i64 GB), (3, yy 57 [] []), (8, .int .i64 GE), (9, .int .i64 Gv)] H [GD, GO] F a w ∧ (xa 112 (zv.v (sz := 2)) 2 Gw Gx Gy GO) ∧ (zw (qg GD) Gu Gx) ∧ (Gx.length = GF.length) ∧ (qe.l2 K (qe.l1 K Gz GB GR) Gz GE G9 Gu Gv).wp kr kp) K ?_ ?_ ?_
   ·exact ⟨GH, GG, GS, GE, hS.to [0, 1] (by kernel_rfl) ⟨rfl, rfl, rfl, rfl, rfl, rfl, trivial⟩, G6, G7, G8, hM⟩
   ·intro a w hI; obtain ⟨_, _, _, _, _, _, _, _, hM⟩ := hI; exact zj hM
   ·intro G9 a w hI LO Lo
    obtain ⟨Gx, Gu, GO, Gv, hS, GC, GA, La, hM⟩ := hI
    rw [qe.l2] at hM
    refine wp_seq <| zg (fun a w => ∃ (Lb : Bool), Ss 53 [] [(0, .slice Gw Gx.length Gy), (1, .int .i64 Gz), (2, .int .i64 GB), (3, yy 57 [] []), (8, .int .i64 GE), (9, .int .i64 Gv), (34, .bool Lb)] H [GD, GO] F a w ∧ (qe.j3 K (qe.l1 K Gz GB GR) (qe.l2 K (qe.l1 K Gz GB GR) Gz GE G9) GE Gu Gv Lb).wp kr kp) (fun LP Lc => ?_) ?_
    ·refine Uh (b := (decide (Gv > Gz))) hM (fun GV hM => ?_) (fun GV hM => ?_)
     ·obtain ⟨GW, hM⟩ := qH hM
      obtain ⟨G1, G2, Lp, Lq, Lr⟩ := GA.get GW
      obtain ⟨GX, hM⟩ := qH hM
      obtain ⟨G3, G4, Lt, Lu, Lv⟩ := GA.get GX
      refine za (vals := [some (.int .i64 Gv), some (.int .i64 Gz), some (.bool true), some (.bool true), some (yy 57 [] []), some (.slice Gw Gx.length Gy), some (.int .i64 Gv), some (xc Gw (Int.toNat Gv * 2)), some (.agg ⟨[.int .i64 ((rd Gu Gv).often_), .slice G1 ((rd Gu Gv).symbols_).length G2]⟩), some (.slice Gw Gx.length Gy), some (.int .i64 Gv), some (.int .i64 (qh (Gv - (1 : Int)))), some (xc Gw (Int.toNat (qh (Gv - (1 : Int))) * 2)), some (.agg ⟨[.int .i64 ((rd Gu (qh (Gv - (1 : Int)))).often_), .slice G3 ((rd Gu (qh (Gv - (1 : Int)))).symbols_).length G4]⟩), none, none, none]) hS xp rfl ?_
      intro l w ho hcl hA hst
      refine jn hA hst ho hcl xv xo 14 [0, 1, 2, 3, 4, 5, 6, 7, 8, 9, 10, 11, 12, 13] rfl rfl rfl rfl rfl (by exact ⟨nM rfl, nM rfl, nQ rfl (by exact qU (yU rfl rfl rfl) (congrArg Value.bool GV)), nM rfl, nW rfl rfl rfl rfl rfl rfl rfl rfl (by exact qU (mv rfl) rfl), nW rfl rfl rfl rfl rfl rfl rfl rfl (by exact qU (mv rfl) rfl), nW rfl rfl rfl rfl rfl rfl rfl rfl (by exact qU (mv rfl) rfl), nW rfl rfl rfl rfl rfl rfl rfl rfl (by exact qU (xM rfl rfl Tryd.runUnderlying110 Tryd.sizeOf112 (GC.rd (i := 1) rfl) zv.len rfl (GA.inb GW)) rfl), nW rfl rfl rfl rfl rfl rfl rfl rfl (by exact qU (qU (yL rfl (GC.rd (i := 1) rfl) zv.len (GA.inb GW) Tryd.isAgg112 Tryd.sizeOf112 rfl) (congrArg (fun l => Value.agg ⟨l⟩) Lp)) rfl), nW rfl rfl rfl rfl rfl rfl rfl rfl (by exact qU (mv rfl) rfl), nW rfl rfl rfl rfl rfl rfl rfl rfl (by exact qU (mv rfl) rfl), nW rfl rfl rfl rfl rfl rfl rfl rfl (by exact qU (yU rfl rfl rfl) rfl), nW rfl rfl rfl rfl rfl rfl rfl rfl (by exact qU (xM rfl rfl Tryd.runUnderlying110 Tryd.sizeOf112 (GC.rd (i := 1) rfl) zv.len rfl (GA.inb GX)) rfl), nW rfl rfl rfl rfl rfl rfl rfl rfl (by exact qU (qU (yL rfl (GC.rd (i := 1) rfl) zv.len (GA.inb GX) Tryd.isAgg112 Tryd.sizeOf112 rfl) (congrArg (fun l => Value.agg ⟨l⟩) Lt)) rfl), trivial⟩) fun D l a w ho hcl hav hpre hm hE hk hA hst => ?_
      have hS := (Ss.mk hE hst).env2 (e' := [(21, .bool true), (22, yy 57 [] []), (26, .agg ⟨[.int .i64 ((rd Gu Gv).often_), .slice G1 ((rd Gu Gv).symbols_).length G2]⟩), (31, .agg ⟨[.int .i64 ((rd Gu (qh (Gv - (1 : Int)))).often_), .slice G3 ((rd Gu (qh (Gv - (1 : Int)))).symbols_).length G4]⟩)]) ⟨rfl, rfl, rfl, rfl, trivial⟩
      refine q7 rfl <| Ql hS rfl rfl rfl rfl <| vg hS rfl rfl Tryd.call57 (jc hG K (qb.mk ((rd Gu Gv).often_) ((rd Gu Gv).symbols_)) (qb.mk ((rd Gu (qh (Gv - (1 : Int)))).often_) ((rd Gu (qh (Gv - (1 : Int)))).symbols_)) G1 G2 G3 G4 (Lq.rdF (i := 0) rfl) Lr (Lu.rdF (i := 0) rfl) Lv (hS.st.part 0 [0, 1] (by kernel_rfl)) (qE hM) (fun GT w hM  hst => qL hS.ev hst.appF rfl fun hS => ?_))
      replace hS : Ss _ _ _ H [GD, GO] F _ _ := hS
      refine qF ?_
      replace hst := hS.st
      obtain ⟨hcl, hmust, hav2, hA⟩ := dn (vals' := [some (.int .i64 Gv), some (.int .i64 Gz), some (.bool true), some (.bool true), some (yy 57 [] []), some (.slice Gw Gx.length Gy), some (.int .i64 Gv), some (xc Gw (Int.toNat Gv * 2)), some (.agg ⟨[.int .i64 ((rd Gu Gv).often_), .slice G1 ((rd Gu Gv).symbols_).length G2]⟩), some (.slice Gw Gx.length Gy), some (.int .i64 Gv), some (.int .i64 (qh (Gv - (1 : Int)))), some (xc Gw (Int.toNat (qh (Gv - (1 : Int))) * 2)), some (.agg ⟨[.int .i64 ((rd Gu (qh (Gv - (1 : Int)))).often_), .slice G3 ((rd Gu (qh (Gv - (1 : Int)))).symbols_).length G4]⟩), some (.int .i64 GT), some (.bool (decide (GT < (0 : Int)))), some (.bool (decide (GT < (0 : Int))))]) 14 [(3, 14), (4, 14), (8, 14), (13, 14), (2, 3), (7, 8), (12, 13), (0, 2), (1, 2), (5, 7), (6, 7), (9, 12), (11, 12), (10, 11)] hA hcl hav hm hpre hk rfl rfl rfl rfl rfl rfl rfl
      clear hm hav
      refine x3 hA hst ho hcl hmust [15, 16] rfl rfl rfl (by exact ⟨nW rfl rfl rfl rfl rfl rfl rfl rfl (by exact qU (yU rfl rfl rfl) rfl), nQ rfl (by exact qU (pk rfl rfl rfl) rfl), trivial⟩) fun a w hS => ?_
      replace hS := hS.env2 (e' := [(0, .slice Gw Gx.length Gy), (1, .int .i64 Gz), (2, .int .i64 GB), (3, yy 57 [] []), (8, .int .i64 GE), (9, .int .i64 Gv), (34, .bool (decide (GT < (0 : Int))))]) ⟨rfl, rfl, rfl, rfl, rfl, rfl, rfl, trivial⟩
      refine qd ?_
      exact Lc _ _ ⟨(decide (GT < (0 : Int))), hS.to [0, 1] (by kernel_rfl) ⟨rfl, rfl, rfl, rfl, rfl, rfl, rfl, trivial⟩, hM⟩
     ·refine za (vals := [some (.int .i64 Gv), some (.int .i64 Gz), some (.bool false), some (.bool false), some (undef), some (undef), some (undef), some (undef), some (undef), some (undef), some (undef), some (undef), some (undef), some (undef), some (undef), some (undef), some (.bool false)]) hS xp rfl ?_
      intro l w ho hcl hA hst
      refine x3 hA hst ho hcl xo [0, 1, 2, 3, 4, 5, 6, 7, 8, 9, 10, 11, 12, 13, 14, 15, 16] rfl rfl rfl (by exact ⟨nM rfl, nM rfl, nQ rfl (by exact qU (yU rfl rfl rfl) (congrArg Value.bool GV)), nM rfl, nS rfl rfl rfl rfl rfl rfl rfl rfl rfl, nS rfl rfl rfl rfl rfl rfl rfl rfl rfl, nS rfl rfl rfl rfl rfl rfl rfl rfl rfl, nS rfl rfl rfl rfl rfl rfl rfl rfl rfl, nS rfl rfl rfl rfl rfl rfl rfl rfl rfl, nS rfl rfl rfl rfl rfl rfl rfl rfl rfl, nS rfl rfl rfl rfl rfl rfl rfl rfl rfl, nS rfl rfl rfl rfl rfl rfl rfl rfl rfl, nS rfl rfl rfl rfl rfl rfl rfl rfl rfl, nS rfl rfl rfl rfl rfl rfl rfl rfl rfl, nS rfl rfl rfl rfl rfl rfl rfl rfl rfl, nS rfl rfl rfl rfl rfl rfl rfl rfl rfl, nQ rfl (by exact qU (pk rfl rfl rfl) rfl), trivial⟩) fun a w hS => ?_
      replace hS := hS.env2 (e' := [(0, .slice Gw Gx.length Gy), (1, .int .i64 Gz), (2, .int .i64 GB), (3, yy 57 [] []), (8, .int .i64 GE), (9, .int .i64 Gv), (34, .bool false)]) ⟨rfl, rfl, rfl, rfl, rfl, rfl, rfl, trivial⟩
      refine qd ?_
      exact Lc _ _ ⟨false, hS.to [0, 1] (by kernel_rfl) ⟨rfl, rfl, rfl, rfl, rfl, rfl, rfl, trivial⟩, hM⟩
    ·intro a w hI
     obtain ⟨Lb, hS, hM⟩ := hI
     rw [qe.j3] at hM
     refine qv hS rfl hM (fun Lw hM => ?_) (fun Lw hM => ?_)
     ·refine wp_skip ?_
      refine qd <| wp_seq <| xw ?_
      obtain ⟨GY, hM⟩ := qH hM
      obtain ⟨GJ, GK, Lx, Ly, Lz⟩ := GA.get GY
      obtain ⟨GL, hM⟩ := qH hM
      obtain ⟨GM, GN, LA, LB, LC⟩ := GA.get GL
      refine za (vals := [some (.slice Gw Gx.length Gy), some (.int .i64 Gv), some (.slice Gw Gx.length Gy), some (.int .i64 Gv), some (.int .i64 (qh (Gv - (1 : Int)))), some (.slice Gw Gx.length Gy), some (.int .i64 Gv), some (.int .i64 (qh (Gv - (1 : Int)))), some (xc Gw (Int.toNat (qh (Gv - (1 : Int))) * 2)), some (.agg ⟨[.int .i64 ((rd Gu (qh (Gv - (1 : Int)))).often_), .slice GJ ((rd Gu (qh (Gv - (1 : Int)))).symbols_).length GK]⟩), some (.slice Gw Gx.length Gy), some (.int .i64 Gv), some (xc Gw (Int.toNat Gv * 2)), some (.agg ⟨[.int .i64 ((rd Gu Gv).often_), .slice GM ((rd Gu Gv).symbols_).length GN]⟩), some (xc Gw (Int.toNat Gv * 2)), none, none, none]) hS xp rfl ?_
      intro l w ho hcl hA hst
      refine jn hA hst ho hcl xv xo 15 [0, 1, 2, 3, 4, 5, 6, 7, 8, 9, 10, 11, 12, 13, 14] rfl rfl rfl rfl rfl (by exact ⟨nM rfl, nM rfl, nM rfl, nM rfl, nB rfl, nM rfl, nM rfl, nB rfl, nQ rfl (by exact qU (xM rfl rfl Tryd.runUnderlying110 Tryd.sizeOf112 (GC.rd (i := 1) rfl) zv.len rfl (GA.inb GY)) rfl), nQ rfl (by exact qU (qU (yL rfl (GC.rd (i := 1) rfl) zv.len (GA.inb GY) Tryd.isAgg112 Tryd.sizeOf112 rfl) (congrArg (fun l => Value.agg ⟨l⟩) Lx)) rfl), nM rfl, nM rfl, nQ rfl (by exact qU (xM rfl rfl Tryd.runUnderlying110 Tryd.sizeOf112 (GC.rd (i := 1) rfl) zv.len rfl (GA.inb GL)) rfl), nQ rfl (by exact qU (qU (yL rfl (GC.rd (i := 1) rfl) zv.len (GA.inb GL) Tryd.isAgg112 Tryd.sizeOf112 rfl) (congrArg (fun l => Value.agg ⟨l⟩) LA)) rfl), nQ rfl (by exact qU (xM rfl rfl Tryd.runUnderlying110 Tryd.sizeOf112 (GC.rd (i := 1) rfl) zv.len rfl (GA.inb GL)) rfl), trivial⟩) fun D l a w ho hcl hav hpre hm hE hk hA hst => ?_
      have hS := (Ss.mk hE hst).env2 (e' := [(46, .agg ⟨[.int .i64 ((rd Gu (qh (Gv - (1 : Int)))).often_), .slice GJ ((rd Gu (qh (Gv - (1 : Int)))).symbols_).length GK]⟩), (51, xc Gw (Int.toNat Gv * 2))]) ⟨rfl, rfl, trivial⟩
      refine q7 rfl <| Qt (i := Gv) (sz := 2) 1 (⟨[.int .i64 ((rd Gu (qh (Gv - (1 : Int)))).often_), .slice GJ ((rd Gu (qh (Gv - (1 : Int)))).symbols_).length GK], by simp, by simp [Value.oneCell']⟩ : zv 2) hS rfl rfl GC rfl Tryd.sizeOf112 rfl (GA.inb GL) fun Ld w LQ hz Le hS => ?_
      obtain ⟨LD, hzm⟩ := jh (Gu.set (Int.toNat Gv) (qb.mk ((rd Gu (qh (Gv - (1 : Int)))).often_) ((rd Gu (qh (Gv - (1 : Int)))).symbols_)))
      replace hM := qC hzm hM
      have GP := zw.set (x := (qb.mk ((rd Gu (qh (Gv - (1 : Int)))).often_) ((rd Gu (qh (Gv - (1 : Int)))).symbols_))) (r := (⟨[.int .i64 ((rd Gu (qh (Gv - (1 : Int)))).often_), .slice GJ ((rd Gu (qh (Gv - (1 : Int)))).symbols_).length GK], by simp, by simp [Value.oneCell']⟩ : zv 2)) (Int.toNat Gv) GA (show qg GD _ _ from ⟨GJ, GK, rfl, Ly, Lz⟩)
      have GZ : Ld.length = Gx.length := by rw [hz]; exact List.length_set ..
      rw [← hz, ← hzm] at GP; clear hz hzm
      have LE := Eq.trans GZ La
      refine qF ?_
      replace hst := hS.st
      obtain ⟨Lf, hM⟩ := qH hM
      obtain ⟨hcl, hmust, hav2, hA⟩ := ZV (vals' := [some (.slice Gw Gx.length Gy), some (.int .i64 Gv), some (.slice Gw Gx.length Gy), some (.int .i64 Gv), some (.int .i64 (qh (Gv - (1 : Int)))), some (.slice Gw Gx.length Gy), some (.int .i64 Gv), some (.int .i64 (qh (Gv - (1 : Int)))), some (xc Gw (Int.toNat (qh (Gv - (1 : Int))) * 2)), some (.agg ⟨[.int .i64 ((rd Gu (qh (Gv - (1 : Int)))).often_), .slice GJ ((rd Gu (qh (Gv - (1 : Int)))).symbols_).length GK]⟩), some (.slice Gw Gx.length Gy), some (.int .i64 Gv), some (xc Gw (Int.toNat Gv * 2)), some (.agg ⟨[.int .i64 ((rd Gu Gv).often_), .slice GM ((rd Gu Gv).symbols_).length GN]⟩), some (xc Gw (Int.toNat Gv * 2)), some undef, some (xc Gw (Int.toNat (qh (Gv - (1 : Int))) * 2)), none]) 15 [(0, 15), (1, 15), (5, 15), (6, 15), (7, 15), (8, 15), (9, 15), (13, 15), (14, 15), (12, 13), (10, 12), (11, 12)] hA hcl hav hm hpre rfl rfl rfl rfl rfl
      clear hm hav
      refine jn hA hst ho hcl hav2 hmust 17 [2, 3, 4, 16] rfl rfl rfl rfl rfl (by exact ⟨nM rfl, nM rfl, nB rfl, nQ rfl (by exact qU (xM (Yw GZ rfl) rfl Tryd.runUnderlying110 Tryd.sizeOf112 (Le.rd (i := 1) rfl) zv.len rfl (GP.inb Lf)) rfl), trivial⟩) fun D l a w ho hcl hav hpre hm hE hk hA hst => ?_
      have hS := (Ss.mk hE hst).env2 (e' := [(50, .agg ⟨[.int .i64 ((rd Gu Gv).often_), .slice GM ((rd Gu Gv).symbols_).length GN]⟩), (52, xc Gw (Int.toNat (qh (Gv - (1 : Int))) * 2))]) ⟨rfl, rfl, trivial⟩
      refine q7 rfl <| Qt (i := (qh (Gv - (1 : Int)))) (sz := 2) 1 (⟨[.int .i64 ((rd Gu Gv).often_), .slice GM ((rd Gu Gv).symbols_).length GN], by simp, by simp [Value.oneCell']⟩ : zv 2) hS rfl rfl Le rfl Tryd.sizeOf112 rfl (GP.inb Lf) fun G0 w LJ hz LF hS => ?_
      obtain ⟨LG, hzm⟩ := jh (LD.set (Int.toNat (qh (Gv - (1 : Int)))) (qb.mk ((rd Gu Gv).often_) ((rd Gu Gv).symbols_)))
      replace hM := qC hzm hM
      have Lg := zw.set (x := (qb.mk ((rd Gu Gv).often_) ((rd Gu Gv).symbols_))) (r := (⟨[.int .i64 ((rd Gu Gv).often_), .slice GM ((rd Gu Gv).symbols_).length GN], by simp, by simp [Value.oneCell']⟩ : zv 2)) (Int.toNat (qh (Gv - (1 : Int)))) GP (show qg GD _ _ from ⟨GM, GN, rfl, LB, LC⟩)
      have Lh : G0.length = Ld.length := by rw [hz]; exact List.length_set ..
      rw [← hz, ← hzm] at Lg; clear hz hzm
      have LH := Eq.trans Lh LE
      refine qF ?_
      replace hst := hS.st
      obtain ⟨hcl, hmust, hav2, hA⟩ := ZV (vals' := [some (.slice Gw Gx.length Gy), some (.int .i64 Gv), some (.slice Gw Gx.length Gy), some (.int .i64 Gv), some (.int .i64 (qh (Gv - (1 : Int)))), some (.slice Gw Gx.length Gy), some (.int .i64 Gv), some (.int .i64 (qh (Gv - (1 : Int)))), some (xc Gw (Int.toNat (qh (Gv - (1 : Int))) * 2)), some (.agg ⟨[.int .i64 ((rd Gu (qh (Gv - (1 : Int)))).often_), .slice GJ ((rd Gu (qh (Gv - (1 : Int)))).symbols_).length GK]⟩), some (.slice Gw Gx.length Gy), some (.int .i64 Gv), some (xc Gw (Int.toNat Gv * 2)), some (.agg ⟨[.int .i64 ((rd Gu Gv).often_), .slice GM ((rd Gu Gv).symbols_).length GN]⟩), some (xc Gw (Int.toNat Gv * 2)), some undef, some (xc Gw (Int.toNat (qh (Gv - (1 : Int))) * 2)), some undef]) 17 [(0, 17), (1, 17), (2, 17), (3, 17), (4, 17), (5, 17), (6, 17), (7, 17), (8, 17), (9, 17), (10, 17), (11, 17), (12, 17), (13, 17), (14, 17), (15, 17), (16, 17)] hA hcl hav hm hpre rfl rfl rfl rfl rfl
      clear hm hav
      refine x3 hA hst ho hcl hmust [] rfl rfl rfl trivial fun a w hS => ?_
      replace hS := hS.env2 (e' := [(0, .slice Gw G0.length Gy), (1, .int .i64 Gz), (2, .int .i64 GB), (3, yy 57 [] []), (8, .int .i64 GE), (9, .int .i64 Gv)]) ⟨(YT (u := .slice Gw Gx.length Gy) rfl (by rw [Lh, GZ])), rfl, rfl, rfl, rfl, rfl, trivial⟩
      refine zr (qd ?_)
      refine zB <| sM hS rfl fun hS => sB hS rfl fun hS => zz (v := Value.int .i64) (x0 := (qh (Gv - (1 : Int)))) hS (xj rfl) rfl fun LK a w hz hS => ?_
      have hM := qC hz hM; clear hz
      refine zc <| qd ?_
      exact Lo _ _ ⟨G0, LG, LJ, LK, hS.to [0, 1] (by kernel_rfl) ⟨rfl, rfl, rfl, rfl, rfl, rfl, trivial⟩, LF, Lg, LH, hM⟩
     ·refine wp_exit ?_
      refine qB (qB (qY (zr (qd ?_))))
      refine zB <| sM hS rfl fun hS => sB hS rfl fun hS => zz (v := Value.int .i64) (x0 := (qh (GE + (1 : Int)))) hS (xj rfl) rfl fun LL a w hz hS => ?_
      have hM := qC hz hM; clear hz
      refine zc <| qd ?_
      exact Lm _ _ ⟨Gx, Gu, GO, LL, hS.to [0, 1] (by kernel_rfl) ⟨rfl, rfl, rfl, rfl, rfl, trivial⟩, GC, GA, La, hM⟩
  ·refine wp_exit ?_
   refine qB (qB (qY ?_))
   exact y4 (rs := []) hS rfl rfl (hret GH GG GS _ (qV hM) G6 G7 G8 (hS.st.pick [0, 1] (by kernel_rfl)))
theorem xk {H : xR} {F : List qq} {w : World} {R : Ending → World → Prop} {kr : (List qb) → Prop} {kp : Value → Prop} (hG : Gl H) (K : Nat) (GF : List qb) (Gw : Int) (Gx : Int) (GG : Int) (GD : qq) (Gy : Option Addr) (GA : Nat) (GC : List (zv 2)) (GT : qq) (G2 : zw (qg GD) GF GC) (G3 : xa 112 (zv.v (sz := 2)) 2 Gy GC GA GT)
    (hS : St w H [GD, GT] F) (hm : (qK.m K GF Gw Gx GG).wp kr kp)
    (hret : ∀ (GO : List (zv 2)) (GN : (List qb)) (G0 : qq) (w : World), kr GN → (xa 112 (zv.v (sz := 2)) 2 Gy GO GA G0) → (zw (qg GD) GN GO) → (GO.length = GC.length) → St w H [GD, G0] F → R (.returned (.tuple ⟨[]⟩)) w) :
    Calls Tryd.prog 109 ⟨[.slice Gy GC.length GA, .int .i64 Gw, .int .i64 Gx, .int .i64 GG, yy 57 [] []]⟩ w R := by
 refine enter Tryd.func109 rfl Tryd.ntmps109 rfl hS fun a w hS => ?_
 have hM := hm; clear hm
 rw [qK.m] at hM
 have Lk : ∀ q ∈ GD, q ∈ GD := fun _ h => h
 have G4 : GC.length = GC.length := rfl
 refine qp <| sA hS rfl fun hS => qF <| xw <| zk (fun G1 a w => ∃ (Gz : List (zv 2)) (Gv : (List qb)) (GS : qq) (Gu : Int), Ss 38 [] [(0, .slice Gy Gz.length GA), (1, .int .i64 Gw), (2, .int .i64 Gx), (3, .int .i64 GG), (10, .int .i64 Gu)] H [GD, GS] F a w ∧ (xa 112 (zv.v (sz := 2)) 2 Gy Gz GA GS) ∧ (zw (qg GD) Gv Gz) ∧ (Gz.length = GC.length) ∧ (qK.l1 K Gw Gx GG G1 Gv Gu).wp kr kp) K ?_ ?_ ?_
 ·exact ⟨GC, GF, GT, (0 : Int), hS.to [0, 1] (by kernel_rfl) ⟨rfl, rfl, rfl, rfl, rfl, trivial⟩, G3, G2, G4, hM⟩
 ·intro a w hI; obtain ⟨_, _, _, _, _, _, _, _, hM⟩ := hI; exact zj hM
 ·intro G1 a w hI Ll G5
  obtain ⟨Gz, Gv, GS, Gu, hS, GE, GB, GU, hM⟩ := hI
  rw [qK.l1] at hM
  refine wp_seq <| qp <| sM hS rfl fun hS => sM hS rfl fun hS => sB hS rfl fun hS => qF <| qv hS rfl hM (fun G6 hM => ?_) (fun G6 hM => ?_)
  ·refine wp_skip ?_
   refine qd <| wp_seq <| xw ?_
   obtain ⟨GP, hM⟩ := qH hM
   obtain ⟨GH, GI, G7, G8, G9⟩ := GB.get GP
   obtain ⟨GJ, hM⟩ := qH hM
   obtain ⟨GK, GL, La, Lb, Lc⟩ := GB.get GJ
   refine za (vals := [some (.slice Gy Gz.length GA), some (.int .i64 Gw), some (.int .i64 Gu), some (.int .i64 (qh (Gw + Gu))), some (.slice Gy Gz.length GA), some (.int .i64 Gx), some (.int .i64 Gu), some (.int .i64 (qh (Gx + Gu))), some (.slice Gy Gz.length GA), some (.int .i64 Gx), some (.int .i64 Gu), some (.int .i64 (qh (Gx + Gu))), some (xc Gy (Int.toNat (qh (Gx + Gu)) * 2)), some (.agg ⟨[.int .i64 ((rd Gv (qh (Gx + Gu))).often_), .slice GH ((rd Gv (qh (Gx + Gu))).symbols_).length GI]⟩), some (.slice Gy Gz.length GA), some (.int .i64 Gw), some (.int .i64 Gu), some (.int .i64 (qh (Gw + Gu))), some (xc Gy (Int.toNat (qh (Gw + Gu)) * 2)), some (.agg ⟨[.int .i64 ((rd Gv (qh (Gw + Gu))).often_), .slice GK ((rd Gv (qh (Gw + Gu))).symbols_).length GL]⟩), some (xc Gy (Int.toNat (qh (Gw + Gu)) * 2)), none, none, none]) hS xp rfl ?_
   intro l w ho hcl hA hst
   refine jn hA hst ho hcl xv xo 21 [0, 1, 2, 3, 4, 5, 6, 7, 8, 9, 10, 11, 12, 13, 14, 15, 16, 17, 18, 19, 20] rfl rfl rfl rfl rfl (by exact ⟨nM rfl, nM rfl, nM rfl, nB rfl, nM rfl, nM rfl, nM rfl, nB rfl, nM rfl, nM rfl, nM rfl, nB rfl, nQ rfl (by exact qU (xM rfl rfl Tryd.runUnderlying110 Tryd.sizeOf112 (GE.rd (i := 1) rfl) zv.len rfl (GB.inb GP)) rfl), nQ rfl (by exact qU (qU (yL rfl (GE.rd (i := 1) rfl) zv.len (GB.inb GP) Tryd.isAgg112 Tryd.sizeOf112 rfl) (congrArg (fun l => Value.agg ⟨l⟩) G7)) rfl), nM rfl, nM rfl, nM rfl, nB rfl, nQ rfl (by exact qU (xM rfl rfl Tryd.runUnderlying110 Tryd.sizeOf112 (GE.rd (i := 1) rfl) zv.len rfl (GB.inb GJ)) rfl), nQ rfl (by exact qU (qU (yL rfl (GE.rd (i := 1) rfl) zv.len (GB.inb GJ) Tryd.isAgg112 Tryd.sizeOf112 rfl) (congrArg (fun l => Value.agg ⟨l⟩) La)) rfl), nQ rfl (by exact qU (xM rfl rfl Tryd.runUnderlying110 Tryd.sizeOf112 (GE.rd (i := 1) rfl) zv.len rfl (GB.inb GJ)) rfl), trivial⟩) fun D l a w ho hcl hav hpre hm hE hk hA hst => ?_
   have hS := (Ss.mk hE hst).env2 (e' := [(29, .agg ⟨[.int .i64 ((rd Gv (qh (Gx + Gu))).often_), .slice GH ((rd Gv (qh (Gx + Gu))).symbols_).length GI]⟩), (36, xc Gy (Int.toNat (qh (Gw + Gu)) * 2))]) ⟨rfl, rfl, trivial⟩
   refine q7 rfl <| Qt (i := (qh (Gw + Gu))) (sz := 2) 1 (⟨[.int .i64 ((rd Gv (qh (Gx + Gu))).often_), .slice GH ((rd Gv (qh (Gx + Gu))).symbols_).length GI], by simp, by simp [Value.oneCell']⟩ : zv 2) hS rfl rfl GE rfl Tryd.sizeOf112 rfl (GB.inb GJ) fun GV w Lm hz GW hS => ?_
   obtain ⟨Ld, hzm⟩ := jh (Gv.set (Int.toNat (qh (Gw + Gu))) (qb.mk ((rd Gv (qh (Gx + Gu))).often_) ((rd Gv (qh (Gx + Gu))).symbols_)))
   replace hM := qC hzm hM
   have GM := zw.set (x := (qb.mk ((rd Gv (qh (Gx + Gu))).often_) ((rd Gv (qh (Gx + Gu))).symbols_))) (r := (⟨[.int .i64 ((rd Gv (qh (Gx + Gu))).often_), .slice GH ((rd Gv (qh (Gx + Gu))).symbols_).length GI], by simp, by simp [Value.oneCell']⟩ : zv 2)) (Int.toNat (qh (Gw + Gu))) GB (show qg GD _ _ from ⟨GH, GI, rfl, G8, G9⟩)
   have GQ : GV.length = Gz.length := by rw [hz]; exact List.length_set ..
   rw [← hz, ← hzm] at GM; clear hz hzm
   have Le := Eq.trans GQ GU
   refine qF ?_
   replace hst := hS.st
   obtain ⟨GX, hM⟩ := qH hM
   obtain ⟨hcl, hmust, hav2, hA⟩ := ZV (vals' := [some (.slice Gy Gz.length GA), some (.int .i64 Gw), some (.int .i64 Gu), some (.int .i64 (qh (Gw + Gu))), some (.slice Gy Gz.length GA), some (.int .i64 Gx), some (.int .i64 Gu), some (.int .i64 (qh (Gx + Gu))), some (.slice Gy Gz.length GA), some (.int .i64 Gx), some (.int .i64 Gu), some (.int .i64 (qh (Gx + Gu))), some (xc Gy (Int.toNat (qh (Gx + Gu)) * 2)), some (.agg ⟨[.int .i64 ((rd Gv (qh (Gx + Gu))).often_), .slice GH ((rd Gv (qh (Gx + Gu))).symbols_).length GI]⟩), some (.slice Gy Gz.length GA), some (.int .i64 Gw), some (.int .i64 Gu), some (.int .i64 (qh (Gw + Gu))), some (xc Gy (Int.toNat (qh (Gw + Gu)) * 2)), some (.agg ⟨[.int .i64 ((rd Gv (qh (Gw + Gu))).often_), .slice GK ((rd Gv (qh (Gw + Gu))).symbols_).length GL]⟩), some (xc Gy (Int.toNat (qh (Gw + Gu)) * 2)), some undef, some (xc Gy (Int.toNat (qh (Gx + Gu)) * 2)), none]) 21 [(0, 21), (1, 21), (2, 21), (3, 21), (8, 21), (9, 21), (10, 21), (11, 21), (12, 21), (13, 21), (19, 21), (20, 21), (18, 19), (14, 18), (17, 18), (15, 17), (16, 17)] hA hcl hav hm hpre rfl rfl rfl rfl rfl
   clear hm hav
   refine jn hA hst ho hcl hav2 hmust 23 [4, 5, 6, 7, 22] rfl rfl rfl rfl rfl (by exact ⟨nM rfl, nM rfl, nM rfl, nB rfl, nQ rfl (by exact qU (xM (Yw GQ rfl) rfl Tryd.runUnderlying110 Tryd.sizeOf112 (GW.rd (i := 1) rfl) zv.len rfl (GM.inb GX)) rfl), trivial⟩) fun D l a w ho hcl hav hpre hm hE hk hA hst => ?_
   have hS := (Ss.mk hE hst).env2 (e' := [(35, .agg ⟨[.int .i64 ((rd Gv (qh (Gw + Gu))).often_), .slice GK ((rd Gv (qh (Gw + Gu))).symbols_).length GL]⟩), (37, xc Gy (Int.toNat (qh (Gx + Gu)) * 2))]) ⟨rfl, rfl, trivial⟩
   refine q7 rfl <| Qt (i := (qh (Gx + Gu))) (sz := 2) 1 (⟨[.int .i64 ((rd Gv (qh (Gw + Gu))).often_), .slice GK ((rd Gv (qh (Gw + Gu))).symbols_).length GL], by simp, by simp [Value.oneCell']⟩ : zv 2) hS rfl rfl GW rfl Tryd.sizeOf112 rfl (GM.inb GX) fun GR w Li hz Lf hS => ?_
   obtain ⟨Lg, hzm⟩ := jh (Ld.set (Int.toNat (qh (Gx + Gu))) (qb.mk ((rd Gv (qh (Gw + Gu))).often_) ((rd Gv (qh (Gw + Gu))).symbols_)))
   replace hM := qC hzm hM
   have GY := zw.set (x := (qb.mk ((rd Gv (qh (Gw + Gu))).often_) ((rd Gv (qh (Gw + Gu))).symbols_))) (r := (⟨[.int .i64 ((rd Gv (qh (Gw + Gu))).often_), .slice GK ((rd Gv (qh (Gw + Gu))).symbols_).length GL], by simp, by simp [Value.oneCell']⟩ : zv 2)) (Int.toNat (qh (Gx + Gu))) GM (show qg GD _ _ from ⟨GK, GL, rfl, Lb, Lc⟩)
   have GZ : GR.length = GV.length := by rw [hz]; exact List.length_set ..
   rw [← hz, ← hzm] at GY; clear hz hzm
   have Lh := Eq.trans GZ Le
   refine qF ?_
   replace hst := hS.st
   obtain ⟨hcl, hmust, hav2, hA⟩ := ZV (vals' := [some (.slice Gy Gz.length GA), some (.int .i64 Gw), some (.int .i64 Gu), some (.int .i64 (qh (Gw + Gu))), some (.slice Gy Gz.length GA), some (.int .i64 Gx), some (.int .i64 Gu), some (.int .i64 (qh (Gx + Gu))), some (.slice Gy Gz.length GA), some (.int .i64 Gx), some (.int .i64 Gu), some (.int .i64 (qh (Gx + Gu))), some (xc Gy (Int.toNat (qh (Gx + Gu)) * 2)), some (.agg ⟨[.int .i64 ((rd Gv (qh (Gx + Gu))).often_), .slice GH ((rd Gv (qh (Gx + Gu))).symbols_).length GI]⟩), some (.slice Gy Gz.length GA), some (.int .i64 Gw), some (.int .i64 Gu), some (.int .i64 (qh (Gw + Gu))), some (xc Gy (Int.toNat (qh (Gw + Gu)) * 2)), some (.agg ⟨[.int .i64 ((rd Gv (qh (Gw + Gu))).often_), .slice GK ((rd Gv (qh (Gw + Gu))).symbols_).length GL]⟩), some (xc Gy (Int.toNat (qh (Gw + Gu)) * 2)), some undef, some (xc Gy (Int.toNat (qh (Gx + Gu)) * 2)), some undef]) 23 [(0, 23), (1, 23), (2, 23), (3, 23), (4, 23), (5, 23), (6, 23), (7, 23), (8, 23), (9, 23), (10, 23), (11, 23), (12, 23), (13, 23), (14, 23), (15, 23), (16, 23), (17, 23), (18, 23), (19, 23), (20, 23), (21, 23), (22, 23)] hA hcl hav hm hpre rfl rfl rfl rfl rfl
   clear hm hav
   refine x3 hA hst ho hcl hmust [] rfl rfl rfl trivial fun a w hS => ?_
   replace hS := hS.env2 (e' := [(0, .slice Gy GR.length GA), (1, .int .i64 Gw), (2, .int .i64 Gx), (3, .int .i64 GG), (10, .int .i64 Gu)]) ⟨(YT (u := .slice Gy Gz.length GA) rfl (by rw [GZ, GQ])), rfl, rfl, rfl, rfl, trivial⟩
   refine zr (qd ?_)
   refine zB <| sM hS rfl fun hS => sB hS rfl fun hS => zz (v := Value.int .i64) (x0 := (qh (Gu + (1 : Int)))) hS (xj rfl) rfl fun Lj a w hz hS => ?_
   have hM := qC hz hM; clear hz
   refine zc <| qd ?_
   exact G5 _ _ ⟨GR, Lg, Li, Lj, hS.to [0, 1] (by kernel_rfl) ⟨rfl, rfl, rfl, rfl, rfl, trivial⟩, Lf, GY, Lh, hM⟩
  ·refine wp_exit ?_
   refine qB (qB (qY ?_))
   exact y4 (rs := []) hS rfl rfl (hret Gz Gv GS _ (qV hM) GE GB GU (hS.st.pick [0, 1] (by kernel_rfl)))
theorem yF {H : xR} {F : List qq} {w : World} {R : Ending → World → Prop} {kr : (List qb) → Prop} {kp : Value → Prop} (hG : Gl H) (K : Nat) (GF : List qb) (GJ : Int) (Gy : Int) (GK : Int) (Gx : qq) (Gu : Option Addr) (Gv : Nat) (GA : List (zv 2)) (GT : qq) (G6 : zw (qg Gx) GF GA) (G7 : xa 112 (zv.v (sz := 2)) 2 Gu GA Gv GT)
    (hS : St w H [Gx, GT] F) (hm : (qA.m K GF GJ Gy GK).wp kr kp)
    (hret : ∀ (GL : List (zv 2)) (GH : (List qb)) (G1 : qq) (w : World), kr GH → (xa 112 (zv.v (sz := 2)) 2 Gu GL Gv G1) → (zw (qg Gx) GH GL) → (GL.length = GA.length) → St w H [Gx, G1] F → R (.returned (.tuple ⟨[]⟩)) w) :
    Calls Tryd.prog 108 ⟨[.slice Gu GA.length Gv, .int .i64 GJ, .int .i64 Gy, .int .i64 GK, yy 57 [] []]⟩ w R := by
 refine enter Tryd.func108 rfl Tryd.ntmps108 rfl hS fun a w hS => ?_
 have hM := hm; clear hm
 rw [qA.m] at hM
 have Lt : ∀ q ∈ Gx, q ∈ Gx := fun _ h => h
 have G8 : GA.length = GA.length := rfl
 refine qp <| sM hS rfl fun hS => sM hS rfl fun hS => sB hS rfl fun hS => zz (v := Value.int .i64) (x0 := (qh (Gy - GJ))) hS (xj rfl) rfl fun Li a w hz hS => ?_
 have hM := qC hz hM; clear hz
 refine qF <| qp <| sM hS rfl fun hS => sM hS rfl fun hS => sB hS rfl fun hS => zz (v := Value.int .i64) (x0 := (qh (GK - Gy))) hS (xj rfl) rfl fun Lj a w hz hS => ?_
 have hM := qC hz hM; clear hz
 refine qF <| zg (fun a w => ∃ (GB : List (zv 2)) (GD : (List qb)) (GS : qq) (GI : Int), Ss 58 [] [(0, .slice Gu GB.length Gv), (2, .int .i64 Gy), (4, yy 57 [] []), (10, .int .i64 GI)] H [Gx, GS] F a w ∧ (xa 112 (zv.v (sz := 2)) 2 Gu GB Gv GS) ∧ (zw (qg Gx) GD GB) ∧ (GB.length = GA.length) ∧ (qA.j2 K Gy GD GI).wp kr kp) (fun Lu G9 => ?_) ?_
 ·refine xw ?_
  refine zk (fun G2 a w => ∃ (Gw : List (zv 2)) (Gz : (List qb)) (GG : qq) (GC : Int) (GE : Int), Ss 58 [] [(0, .slice Gu Gw.length Gv), (2, .int .i64 Gy), (4, yy 57 [] []), (10, .int .i64 GC), (11, .int .i64 GE)] H [Gx, GG] F a w ∧ (xa 112 (zv.v (sz := 2)) 2 Gu Gw Gv GG) ∧ (zw (qg Gx) Gz Gw) ∧ (Gw.length = GA.length) ∧ (qA.l1 K Gy G2 Gz GC GE).wp kr kp) K ?_ ?_ ?_
  ·exact ⟨GA, GF, GT, Li, Lj, hS.to [0, 1] (by kernel_rfl) ⟨rfl, rfl, rfl, rfl, rfl, trivial⟩, G7, G6, G8, hM⟩
  ·intro a w hI; obtain ⟨_, _, _, _, _, _, _, _, _, hM⟩ := hI; exact zj hM
  ·intro G2 a w hI Lv GU
   obtain ⟨Gw, Gz, GG, GC, GE, hS, GM, GN, GO, hM⟩ := hI
   rw [qA.l1] at hM
   refine wp_seq <| qp <| sM hS rfl fun hS => sM hS rfl fun hS => sB hS rfl fun hS => qF <| qv hS rfl hM (fun La hM => ?_) (fun La hM => ?_)
   ·refine wp_skip ?_
    refine qd <| xw <| qp <| sM hS rfl fun hS => sM hS rfl fun hS => sB hS rfl fun hS => qF <| qv hS rfl hM (fun Lb hM => ?_) (fun Lb hM => ?_)
    ·refine wp_seq ?_
     refine zB <| sM hS rfl fun hS => sM hS rfl fun hS => sM hS rfl fun hS => sB hS rfl fun hS => sM hS rfl fun hS => sM hS rfl fun hS => sM hS rfl fun hS => qO hS rfl Tryd.call109 (xk hG K Gz (qh (Gy - GC)) Gy GE Gx Gu Gv Gw GG GN GM (hS.st.part 2 [0, 1] (by kernel_rfl)) (qE hM) (fun GP GV G3 w hM Lk Ll GW hst => qL hS.ev hst.appF rfl fun hS => ?_))
     replace hS : Ss _ _ _ H [Gx, G3] F _ _ := hS
     have Lc := Eq.trans GW GO
     replace hS := hS.re 0 (u := .slice Gu Gw.length Gv) (v := .slice Gu GP.length Gv) rfl (by rw [GW])
     replace hS := hS.re 24 (u := .slice Gu Gw.length Gv) (v := .slice Gu GP.length Gv) rfl (by rw [GW])
     refine qF <| zB <| sM hS rfl fun hS => sM hS rfl fun hS => sB hS rfl fun hS => zz (v := Value.int .i64) (x0 := (qh (GC - GE))) hS (xj rfl) rfl fun Lm a w hz hS => ?_
     have hM := qC hz hM; clear hz
     refine zc <| zr (qd ?_)
     exact GU _ _ ⟨GP, GV, G3, Lm, GE, hS.to [0, 1] (by kernel_rfl) ⟨rfl, rfl, rfl, rfl, rfl, trivial⟩, Lk, Ll, Lc, hM⟩
    ·refine wp_seq ?_
     refine zB <| sM hS rfl fun hS => sM hS rfl fun hS => sM hS rfl fun hS => sB hS rfl fun hS => sM hS rfl fun hS => sM hS rfl fun hS => sB hS rfl fun hS => sM hS rfl fun hS => sB hS rfl fun hS => sM hS rfl fun hS => sM hS rfl fun hS => qO hS rfl Tryd.call109 (xk hG K Gz (qh (Gy - GC)) (qh ((qh (Gy + GE)) - GC)) GC Gx Gu Gv Gw GG GN GM (hS.st.part 2 [0, 1] (by kernel_rfl)) (qE hM) (fun GQ GX G4 w hM Ln Lo GY hst => qL hS.ev hst.appF rfl fun hS => ?_))
     replace hS : Ss _ _ _ H [Gx, G4] F _ _ := hS
     have Ld := Eq.trans GY GO
     replace hS := hS.re 0 (u := .slice Gu Gw.length Gv) (v := .slice Gu GQ.length Gv) rfl (by rw [GY])
     replace hS := hS.re 35 (u := .slice Gu Gw.length Gv) (v := .slice Gu GQ.length Gv) rfl (by rw [GY])
     refine qF <| zB <| sM hS rfl fun hS => sM hS rfl fun hS => sB hS rfl fun hS => zz (v := Value.int .i64) (x0 := (qh (GE - GC))) hS (xj rfl) rfl fun Lp a w hz hS => ?_
     have hM := qC hz hM; clear hz
     refine zc <| zr (qd ?_)
     exact GU _ _ ⟨GQ, GX, G4, GC, Lp, hS.to [0, 1] (by kernel_rfl) ⟨rfl, rfl, rfl, rfl, rfl, trivial⟩, Ln, Lo, Ld, hM⟩
   ·refine wp_exit ?_
    refine qB (qB (qY (qd ?_)))
    exact G9 _ _ ⟨Gw, Gz, GG, GC, hS.to [0, 1] (by kernel_rfl) ⟨rfl, rfl, rfl, rfl, trivial⟩, GM, GN, GO, hM⟩
 ·intro a w hI
  obtain ⟨GB, GD, GS, GI, hS, Le, Lf, Lg, hM⟩ := hI
  rw [qA.j2] at hM
  refine zB <| sM hS rfl fun hS => sM hS rfl fun hS => sM hS rfl fun hS => sB hS rfl fun hS => sM hS rfl fun hS => sM hS rfl fun hS => sM hS rfl fun hS => qO hS rfl Tryd.call109 (xk hG K GD (qh (Gy - GI)) Gy GI Gx Gu Gv GB GS Lf Le (hS.st.part 2 [0, 1] (by kernel_rfl)) (qE hM) (fun GR GZ G5 w hM Lq Lr G0 hst => qL hS.ev hst.appF rfl fun hS => ?_))
  replace hS : Ss _ _ _ H [Gx, G5] F _ _ := hS
  have Lh := Eq.trans G0 Lg
  replace hS := hS.re 0 (u := .slice Gu GB.length Gv) (v := .slice Gu GR.length Gv) rfl (by rw [G0])
  replace hS := hS.re 50 (u := .slice Gu GB.length Gv) (v := .slice Gu GR.length Gv) rfl (by rw [G0])
  refine zc ?_
  exact y4 (rs := []) hS rfl rfl (hret GR GZ G5 _ (qV hM) Lq Lr Lh (hS.st.pick [0, 1] (by kernel_rfl)))
end Go.TrydS

