/- Printed by a program of mine: each Go function answers what its model answers; conditions: what each theorem asks of memory. -/
import Derived.Test.YtjgcmokfinicnaaDoorMmgneg
import Derived.Test.YtjgcmokfinicnaaDoorChecked
set_option linter.unusedVariables false
set_option linter.unusedSimpArgs false
set_option maxRecDepth 100000
namespace Go.TrydS
open Go Go.Sl Go.Mo Go.Proofs
attribute [local irreducible] qW.wp
theorem z6 : Tryd.prog.follows .mixedOrders = true := by kernel_rfl
def _root_.Go.Mo.qp.cells (x : qp) : List Value := [.int .u8 x.Lit_, .int .i64 x.Len_, .int .i64 x.Dist_]
def _root_.Go.Mo.qJ.cells (x : qJ) : List Value := [.int .i64 x.at_]
def _root_.Go.Mo.z4.cells (x : z4) : List Value := [.int .i64 x.symbol_, .int .i64 x.bits_, .int .u32 x.more_]
def _root_.Go.Mo.ql.cells (x : ql) : List Value := [.int .i64 x.symbol_, .int .i64 x.more_, .int .i64 x.bits_]
theorem X.el3 : El Tryd.prog 3 1 8 := ⟨_, _, Tryd.typeInfo3, rfl, rfl, rfl, rfl⟩
theorem X.el5 : El Tryd.prog 5 1 1 := ⟨_, _, Tryd.typeInfo5, rfl, rfl, rfl, rfl⟩
theorem X.el32 : El Tryd.prog 32 3 24 := ⟨_, _, Tryd.typeInfo32, rfl, rfl, rfl, rfl⟩
theorem X.el45 : El Tryd.prog 45 1 24 := ⟨_, _, Tryd.typeInfo45, rfl, rfl, rfl, rfl⟩
theorem X.el75 : El Tryd.prog 75 3 24 := ⟨_, _, Tryd.typeInfo75, rfl, rfl, rfl, rfl⟩
theorem X.el110 : El Tryd.prog 110 1 24 := ⟨_, _, Tryd.typeInfo110, rfl, rfl, rfl, rfl⟩
theorem X.el112 : El Tryd.prog 112 2 32 := ⟨_, _, Tryd.typeInfo112, rfl, rfl, rfl, rfl⟩
theorem xb : ∀ x, ∀ u ∈ (ci .i64) x, u.oneCell' = true := fun x u hu => by cases hu with | head => rfl | tail _ h => cases h
theorem u9 : ∀ x, ∀ u ∈ (ci .u8) x, u.oneCell' = true := fun x u hu => by cases hu with | head => rfl | tail _ h => cases h
theorem Vz : ∀ x, ∀ u ∈ qp.cells x, u.oneCell' = true := by
  intro x u hu
  simp only [qp.cells, List.mem_cons, List.not_mem_nil, or_false] at hu
  rcases hu with rfl | rfl | rfl <;> rfl
theorem uW : ∀ x, ∀ u ∈ ql.cells x, u.oneCell' = true := by
  intro x u hu
  simp only [ql.cells, List.mem_cons, List.not_mem_nil, or_false] at hu
  rcases hu with rfl | rfl | rfl <;> rfl
structure Gl (H : xl) : Prop where
  g0 : ∃ T fr, H 0 = some (.cells ⟨tab_deflate_order.flatMap (ci .i64)⟩ T fr)
theorem Zw {H : xl} {F : List qs} {w : World} {R : Ending → World → Prop} {kr : Bool → Prop} {kp : Value → Prop} (hG : Gl H) (K : Nat) (Bn : qp)
    (hS : St w H [] F) (hm : (y7.m K Bn).wp kr kp)
    (hret : ∀ (Bq : Bool) (w : World), kr Bq → St w H [] F → R (.returned (.bool Bq)) w) :
    Calls Tryd.prog 74 ⟨[.agg ⟨[.int .u8 Bn.Lit_, .int .i64 Bn.Len_, .int .i64 Bn.Dist_]⟩]⟩ w R := by
 refine enter Tryd.func74 rfl Tryd.ntmps74 rfl hS fun a w hS => ?_
 have hM := hm; clear hm
 rw [y7.m] at hM
 refine qu <| bx ([.int .u8 Bn.Lit_, .int .i64 Bn.Len_, .int .i64 Bn.Dist_]) hS rfl rfl rfl fun w Bt Bu Bo hS => sA hS rfl fun hS => qF <| wp_seq <| qu <| sO hS (xn rfl Tryd.runUnderlying32 rfl Tryd.sizeOf3 rfl) rfl fun hS => sO hS (x5 0 rfl Bo rfl rfl Tryd.isAgg3) rfl fun hS => sB hS rfl fun hS => qF <| qC hS rfl hM (fun Bp hM => ?_) (fun Bp hM => ?_)
 ·refine wp_seq ?_
  refine zv <| sO hS (xn rfl Tryd.runUnderlying32 rfl Tryd.sizeOf3 rfl) rfl fun hS => sO hS (x5 0 rfl Bo rfl rfl Tryd.isAgg3) rfl fun hS => sB hS rfl fun hS => zr (v := Value.bool) (x0 := (Bn.Len_ == (0 : Int))) hS (z8 rfl) rfl fun Br a w hz hS => ?_
  have hM := qA hz hM; clear hz
  refine qF <| wp_ret <| zz ?_
  exact zJ (rs := [2]) hS rfl rfl (hret Br _ (zj hM) (hS.st.pick [] (by kernel_rfl)))
 ·refine wp_skip ?_
  refine qg <| qu <| sO hS (xn rfl Tryd.runUnderlying32 rfl Tryd.sizeOf3 rfl) rfl fun hS => sO hS (x5 0 rfl Bo rfl rfl Tryd.isAgg3) rfl fun hS => sB hS rfl fun hS => sM hS rfl fun hS => yr 3 true 12 (b := (decide (Bn.Dist_ > (0 : Int)))) (r := (decide (Bn.Dist_ ≤ (32768 : Int)))) hS rfl rfl rfl rfl rfl rfl rfl (fun hb a w hS K hK => ?_) rfl fun a w hS => ?_
  ·refine zF hS rfl rfl rfl hb (xn rfl Tryd.runUnderlying32 rfl Tryd.sizeOf3 rfl) rfl fun a w hS => ?_
   refine zF hS rfl rfl rfl hb (x5 0 rfl Bo rfl rfl Tryd.isAgg3) rfl fun a w hS => zF hS rfl rfl rfl hb (yN rfl rfl rfl) rfl fun a w hS => ?_
   exact q9 (hK _ _ (hS.up 3 rfl rfl))
  refine sM hS rfl fun hS => yr 3 true 17 (b := ((decide (Bn.Dist_ > (0 : Int))) && (decide (Bn.Dist_ ≤ (32768 : Int))))) (r := (decide (Bn.Len_ ≥ (3 : Int)))) hS rfl rfl rfl rfl rfl rfl rfl (fun hb a w hS K hK => ?_) rfl fun a w hS => ?_
  ·refine zF hS rfl rfl rfl hb (xn rfl Tryd.runUnderlying32 rfl Tryd.sizeOf3 rfl) rfl fun a w hS => ?_
   refine zF hS rfl rfl rfl hb (x5 0 rfl Bo rfl rfl Tryd.isAgg3) rfl fun a w hS => zF hS rfl rfl rfl hb (yN rfl rfl rfl) rfl fun a w hS => ?_
   exact q9 (hK _ _ (hS.up 3 rfl rfl))
  refine sM hS rfl fun hS => yr 3 true 22 (b := (((decide (Bn.Dist_ > (0 : Int))) && (decide (Bn.Dist_ ≤ (32768 : Int)))) && (decide (Bn.Len_ ≥ (3 : Int))))) (r := (decide (Bn.Len_ ≤ (258 : Int)))) hS rfl rfl rfl rfl rfl rfl rfl (fun hb a w hS K hK => ?_) rfl fun a w hS => ?_
  ·refine zF hS rfl rfl rfl hb (xn rfl Tryd.runUnderlying32 rfl Tryd.sizeOf3 rfl) rfl fun a w hS => ?_
   refine zF hS rfl rfl rfl hb (x5 0 rfl Bo rfl rfl Tryd.isAgg3) rfl fun a w hS => zF hS rfl rfl rfl hb (yN rfl rfl rfl) rfl fun a w hS => ?_
   exact q9 (hK _ _ (hS.up 3 rfl rfl))
  refine sM hS rfl fun hS => yr 3 true 27 (b := ((((decide (Bn.Dist_ > (0 : Int))) && (decide (Bn.Dist_ ≤ (32768 : Int)))) && (decide (Bn.Len_ ≥ (3 : Int)))) && (decide (Bn.Len_ ≤ (258 : Int))))) (r := (Bn.Lit_ == (0 : Int))) hS rfl rfl rfl rfl rfl rfl rfl (fun hb a w hS K hK => ?_) rfl fun a w hS => ?_
  ·refine zF hS rfl rfl rfl hb (xn rfl Tryd.runUnderlying32 rfl Tryd.sizeOf5 rfl) rfl fun a w hS => ?_
   refine zF hS rfl rfl rfl hb (x5 0 rfl Bo rfl rfl Tryd.isAgg5) rfl fun a w hS => zF hS rfl rfl rfl hb (yN rfl rfl rfl) rfl fun a w hS => ?_
   exact q9 (hK _ _ (hS.up 3 rfl rfl))
  refine zr (v := Value.bool) (x0 := (((((decide (Bn.Dist_ > (0 : Int))) && (decide (Bn.Dist_ ≤ (32768 : Int)))) && (decide (Bn.Len_ ≥ (3 : Int)))) && (decide (Bn.Len_ ≤ (258 : Int)))) && (Bn.Lit_ == (0 : Int)))) hS (z8 rfl) rfl fun Bs a w hz hS => ?_
  have hM := qA hz hM; clear hz
  refine qF <| wp_ret ?_
  exact zJ (rs := [2]) hS rfl rfl (hret Bs _ (zj hM) (hS.st.pick [] (by kernel_rfl)))
theorem jO {H : xl} {F : List qs} {w : World} {R : Ending → World → Prop} {kr : Int → Prop} {kp : Value → Prop} (hG : Gl H) (K : Nat) (Bq : Int) (Bn : Int)
    (hS : St w H [] F) (hm : (xj.m K Bq Bn).wp kr kp)
    (hret : ∀ (Bw : Int) (w : World), kr Bw → St w H [] F → R (.returned (.int .i64 Bw)) w) :
    Calls Tryd.prog 76 ⟨[.int .i64 Bq, .int .i64 Bn]⟩ w R := by
 refine enter Tryd.func76 rfl Tryd.ntmps76 rfl hS fun a w hS => ?_
 have hM := hm; clear hm
 rw [xj.m] at hM
 refine qu <| sA hS rfl fun hS => qF <| qu <| sA hS rfl fun hS => qF <| wp_seq <| z7 <| zd (fun Bx a w => ∃ (Bp : Int) (Bo : Int), Ss 15 [] [(0, .int .i64 Bp), (1, .int .i64 Bn), (5, .int .i64 Bo)] H [] F a w ∧ (xj.l1 K Bn Bx Bp Bo).wp kr kp) K ?_ ?_ ?_
 ·exact ⟨Bq, (0 : Int), hS.to [] (by kernel_rfl) ⟨rfl, rfl, rfl, trivial⟩, hM⟩
 ·intro a w hI; obtain ⟨_, _, _, hM⟩ := hI; exact zc hM
 ·intro Bx a w hI By Br
  obtain ⟨Bp, Bo, hS, hM⟩ := hI
  rw [xj.l1] at hM
  refine wp_seq <| qu <| sM hS rfl fun hS => sM hS rfl fun hS => ?_
  obtain ⟨Bs, hM⟩ := qB hM
  refine sO hS (shl rfl rfl Bs) rfl fun hS => sB hS rfl fun hS => qF <| qC hS rfl hM (fun Bt hM => ?_) (fun Bt hM => ?_)
  ·refine wp_skip ?_
   refine qg <| z7 <| qu <| sM hS rfl fun hS => sO hS (shr rfl rfl rfl) rfl fun hS => zr (v := Value.int .i64) (x0 := (zR .i64 Bp (1 : Int))) hS (z8 rfl) rfl fun Bu a w hz hS => ?_
   have hM := qA hz hM; clear hz
   refine qF <| zv <| sM hS rfl fun hS => sB hS rfl fun hS => zr (v := Value.int .i64) (x0 := (qk (Bo + (1 : Int)))) hS (z8 rfl) rfl fun Bv a w hz hS => ?_
   have hM := qA hz hM; clear hz
   refine q9 <| zk (qg ?_)
   exact Br _ _ ⟨Bu, Bv, hS.to [] (by kernel_rfl) ⟨rfl, rfl, rfl, trivial⟩, hM⟩
  ·refine wp_exit ?_
   refine qx (qx (qV (qg ?_)))
   refine qu <| sM hS rfl fun hS => sA hS rfl fun hS => qF <| wp_ret ?_
   exact zJ (rs := [4]) hS rfl rfl (hret Bo _ (zj hM) (hS.st.pick [] (by kernel_rfl)))
theorem vL {H : xl} {F : List qs} {w : World} {R : Ending → World → Prop} {kr : Int → Prop} {kp : Value → Prop} (hG : Gl H) (K : Nat) (Bn : Int)
    (hS : St w H [] F) (hm : (xO.m K Bn).wp kr kp)
    (hret : ∀ (Bq : Int) (w : World), kr Bq → St w H [] F → R (.returned (.int .i64 Bq)) w) :
    Calls Tryd.prog 75 ⟨[.int .i64 Bn]⟩ w R := by
 refine enter Tryd.func75 rfl Tryd.ntmps75 rfl hS fun a w hS => ?_
 have hM := hm; clear hm
 rw [xO.m] at hM
 refine qu <| sA hS rfl fun hS => qF <| wp_seq <| z7 <| qu <| sM hS rfl fun hS => sB hS rfl fun hS => zr (v := Value.bool) (x0 := (Bn == (258 : Int))) hS (z8 rfl) rfl fun Bv a w hz hS => ?_
 have hM := qA hz hM; clear hz
 refine qF <| qC hS rfl hM (fun Bo hM => ?_) (fun Bo hM => ?_)
 ·refine wp_seq ?_
  refine zv <| sA hS rfl fun hS => qF <| wp_ret <| yz (zz ?_)
  exact zJ (rs := [2]) hS rfl rfl (hret (8 : Int) _ (zj hM) (hS.st.pick [] (by kernel_rfl)))
 ·refine wp_seq ?_
  refine zv <| sM hS rfl fun hS => sB hS rfl fun hS => zr (v := Value.bool) (x0 := (decide (Bn ≥ (115 : Int)))) hS (z8 rfl) rfl fun Bw a w hz hS => ?_
  have hM := qA hz hM; clear hz
  refine qF <| qC hS rfl hM (fun Bp hM => ?_) (fun Bp hM => ?_)
  ·refine wp_seq ?_
   refine zv <| sM hS rfl fun hS => sB hS rfl fun hS => qO hS rfl Tryd.call76 (jO hG K (qk (Bn - (3 : Int))) (2 : Int) (hS.st.part 0 [] (by kernel_rfl)) (qy hM) (fun Br w hM  hst => qM hS.ev hst.appF rfl fun hS => ?_))
   replace hS : Ss _ _ _ H [] F _ _ := hS
   refine sB hS rfl fun hS => zr (v := Value.int .i64) (x0 := (qk ((8 : Int) + Br))) hS (z8 rfl) rfl fun Bs a w hz hS => ?_
   have hM := qA hz hM; clear hz
   refine qF <| wp_ret <| yz (zz ?_)
   exact zJ (rs := [2]) hS rfl rfl (hret Bs _ (zj hM) (hS.st.pick [] (by kernel_rfl)))
  ·refine wp_skip ?_
   refine zk (qg ?_)
   refine qu <| sM hS rfl fun hS => sB hS rfl fun hS => qO hS rfl Tryd.call76 (jO hG K (qk (Bn - (3 : Int))) (2 : Int) (hS.st.part 0 [] (by kernel_rfl)) (qy hM) (fun Bt w hM  hst => qM hS.ev hst.appF rfl fun hS => ?_))
   replace hS : Ss _ _ _ H [] F _ _ := hS
   refine sB hS rfl fun hS => zr (v := Value.int .i64) (x0 := (qk ((7 : Int) + Bt))) hS (z8 rfl) rfl fun Bu a w hz hS => ?_
   have hM := qA hz hM; clear hz
   refine qF <| wp_ret ?_
   exact zJ (rs := [2]) hS rfl rfl (hret Bu _ (zj hM) (hS.st.pick [] (by kernel_rfl)))
theorem ZF {H : xl} {F : List qs} {w : World} {R : Ending → World → Prop} {kr : (Int × Int) → Prop} {kp : Value → Prop} (hG : Gl H) (K : Nat) (Bn : List qp) (By : Option Addr) (Bz : Nat) (Bv : yM H [] F qp.cells By Bn) (BM : Bn.length ≤ Bz)
    (hS : St w H [] F) (hm : (xc.m K Bn).wp kr kp)
    (hret : ∀ (BJ : Int) (BK : Int) (w : World), kr (BJ, BK) → St w H [] F → R (.returned (.tuple ⟨[.int .i64 BJ, .int .i64 BK]⟩)) w) :
    Calls Tryd.prog 49 ⟨[.slice By Bn.length Bz]⟩ w R := by
 refine enter Tryd.func49 rfl Tryd.ntmps49 rfl hS fun a w hS => ?_
 have hM := hm; clear hm
 rw [xc.m] at hM
 refine qu <| sA hS rfl fun hS => sA hS rfl fun hS => qF <| qu <| sA hS rfl fun hS => qF <| wp_seq <| qu <| sM hS rfl fun hS => sO hS (xI rfl Tryd.runUnderlying25) rfl fun hS => sM hS rfl fun hS => qF <| z7 <| zd (fun BL a w => ∃ (Bp : Int) (Bo : Int), Ss 47 [] [(4, .int .i64 Bp), (7, .slice By Bn.length Bz), (8, .int .i64 (Bn.length : Int)), (9, .int .i64 Bo)] H [] F a w ∧ (xc.l1 K Bn BL Bp Bo).wp kr kp) K ?_ ?_ ?_
 ·exact ⟨(7 : Int), (0 : Int), hS.to [] (by kernel_rfl) ⟨rfl, rfl, rfl, rfl, trivial⟩, hM⟩
 ·intro a w hI; obtain ⟨_, _, _, hM⟩ := hI; exact zc hM
 ·intro BL a w hI BO Br
  obtain ⟨Bp, Bo, hS, hM⟩ := hI
  rw [xc.l1] at hM
  refine qu <| sB hS rfl fun hS => qF <| wp_seq <| qC hS rfl hM (fun BB hM => ?_) (fun BB hM => ?_)
  ·refine wp_skip ?_
   refine qg <| wp_seq <| z7 <| wp_seq <| zv ?_
   obtain ⟨Bw, hM⟩ := qB hM
   refine sO hS (xd rfl rfl Tryd.runUnderlying25 Tryd.sizeOf32 Bv.wk (fun _ => rfl) rfl Bw) rfl fun hS => sO hS (xV rfl Bv.wk (fun _ => rfl) Bw Tryd.isAgg32 Tryd.sizeOf32 rfl) rfl fun hS => uS ([.int .u8 (0 : Int), .int .i64 (0 : Int), .int .i64 (0 : Int)]) hS Tryd.zeroValue32 rfl rfl fun w Bu BP BC hS => uX 0 ([.int .u8 ((rd Bn Bo).Lit_), .int .i64 ((rd Bn Bo).Len_), .int .i64 ((rd Bn Bo).Dist_)]) ([.int .u8 ((rd Bn Bo).Lit_), .int .i64 ((rd Bn Bo).Len_), .int .i64 ((rd Bn Bo).Dist_)]) hS rfl rfl BC rfl rfl Tryd.sizeOf32 (by simp [Value.oneCell']) (Nat.le_of_ble_eq_true rfl) rfl fun w BD Bq hS => qF <| z7 <| qu <| sO hS (vN 0 rfl Bq rfl ([.int .u8 ((rd Bn Bo).Lit_), .int .i64 ((rd Bn Bo).Len_), .int .i64 ((rd Bn Bo).Dist_)]) rfl rfl Tryd.isAgg32 Tryd.sizeOf32) rfl fun hS => qO hS rfl Tryd.call74 (Zw hG K (qp.mk ((rd Bn Bo).Lit_) ((rd Bn Bo).Len_) ((rd Bn Bo).Dist_)) (hS.st.part 0 [0] (by kernel_rfl)) (qy hM) (fun BN w hM  hst => qM hS.ev hst.appF rfl fun hS => ?_))
   replace hS : Ss _ _ _ H [BD] F _ _ := hS
   refine sO hS (un rfl rfl) rfl fun hS => zr (v := Value.bool) (x0 := (!BN)) hS (z8 rfl) rfl fun BQ a w hz hS => ?_
   have hM := qA hz hM; clear hz
   refine qF <| qC hS rfl hM (fun BE hM => ?_) (fun BE hM => ?_)
   ·refine wp_seq ?_
    refine zv <| sA hS rfl fun hS => sA hS rfl fun hS => qF <| wp_ret <| yz (yz (zz (zz (yz (zz ?_)))))
    exact zJ (rs := [2, 3]) hS rfl rfl (hret (0 : Int) (1 : Int) _ (zj hM) (hS.st.pick [] (by kernel_rfl)))
   ·refine wp_seq ?_
    refine zv <| sO hS (xn rfl Tryd.runUnderlying32 rfl Tryd.sizeOf3 rfl) rfl fun hS => sO hS (x5 0 rfl Bq rfl rfl Tryd.isAgg3) rfl fun hS => sB hS rfl fun hS => sM hS rfl fun hS => yr 3 true 32 (b := ((rd Bn Bo).Dist_ == (0 : Int))) (r := (decide ((rd Bn Bo).Lit_ < (144 : Int)))) hS rfl rfl rfl rfl rfl rfl rfl (fun hb a w hS K hK => ?_) rfl fun a w hS => ?_
    ·refine zF hS rfl rfl rfl hb (xn rfl Tryd.runUnderlying32 rfl Tryd.sizeOf5 rfl) rfl fun a w hS => ?_
     refine zF hS rfl rfl rfl hb (x5 0 rfl Bq rfl rfl Tryd.isAgg5) rfl fun a w hS => zF hS rfl rfl rfl hb (yN rfl rfl rfl) rfl fun a w hS => ?_
     exact q9 (hK _ _ (hS.up 3 rfl rfl))
    refine zr (v := Value.bool) (x0 := (((rd Bn Bo).Dist_ == (0 : Int)) && (decide ((rd Bn Bo).Lit_ < (144 : Int))))) hS (z8 rfl) rfl fun BR a w hz hS => ?_
    have hM := qA hz hM; clear hz
    refine qF <| qC hS rfl hM (fun BF hM => ?_) (fun BF hM => ?_)
    ·refine zv ?_
     refine sM hS rfl fun hS => sB hS rfl fun hS => zr (v := Value.int .i64) (x0 := (qk (Bp + (8 : Int)))) hS (z8 rfl) rfl fun BG a w hz hS => ?_
     have hM := qA hz hM; clear hz
     refine q9 <| zk (zk (qg ?_))
     refine zv <| sB hS rfl fun hS => sM hS rfl fun hS => q9 <| qg ?_
     exact Br _ _ ⟨BG, (qk (Bo + (1 : Int))), hS.to [] (by kernel_rfl) ⟨rfl, rfl, rfl, rfl, trivial⟩, hM⟩
    ·refine wp_seq ?_
     refine zv <| sO hS (xn rfl Tryd.runUnderlying32 rfl Tryd.sizeOf3 rfl) rfl fun hS => sO hS (x5 0 rfl Bq rfl rfl Tryd.isAgg3) rfl fun hS => sB hS rfl fun hS => zr (v := Value.bool) (x0 := ((rd Bn Bo).Dist_ == (0 : Int))) hS (z8 rfl) rfl fun BS a w hz hS => ?_
     have hM := qA hz hM; clear hz
     refine qF <| qC hS rfl hM (fun BH hM => ?_) (fun BH hM => ?_)
     ·refine zv ?_
      refine sM hS rfl fun hS => sB hS rfl fun hS => zr (v := Value.int .i64) (x0 := (qk (Bp + (9 : Int)))) hS (z8 rfl) rfl fun BI a w hz hS => ?_
      have hM := qA hz hM; clear hz
      refine q9 <| zk (zk (qg ?_))
      refine zv <| sB hS rfl fun hS => sM hS rfl fun hS => q9 <| qg ?_
      exact Br _ _ ⟨BI, (qk (Bo + (1 : Int))), hS.to [] (by kernel_rfl) ⟨rfl, rfl, rfl, rfl, trivial⟩, hM⟩
     ·refine q8 (vals := [some (.int .i64 Bp), some (q7 Bu 1), some (.int .i64 ((rd Bn Bo).Len_)), none, none, some (q7 Bu 2), some (.int .i64 ((rd Bn Bo).Dist_)), some (.int .i64 (qk ((rd Bn Bo).Dist_ - (1 : Int)))), none, none, none, none]) hS z6 rfl ?_
      intro l w ho hcl hA hst
      refine yx hA hst ho hcl zX z5 3 [0, 1, 2, 5, 6, 7] rfl rfl rfl rfl rfl (by exact ⟨nM rfl, nQ rfl (by exact qR (xn rfl Tryd.runUnderlying32 rfl Tryd.sizeOf3 rfl) rfl), nQ rfl (by exact qR (x5 0 rfl Bq rfl rfl Tryd.isAgg3) rfl), nQ rfl (by exact qR (xn rfl Tryd.runUnderlying32 rfl Tryd.sizeOf3 rfl) rfl), nQ rfl (by exact qR (x5 0 rfl Bq rfl rfl Tryd.isAgg3) rfl), nB rfl, trivial⟩) fun D l a w ho hcl hav hpre hm hE hk hA hst => ?_
      have hS := (Ss.mk hE hst).env2 (e' := [(15, .int .i64 ((rd Bn Bo).Len_))]) ⟨rfl, trivial⟩
      refine qP rfl <| qO hS rfl Tryd.call75 (vL hG K ((rd Bn Bo).Len_) (hS.st.part 0 [0] (by kernel_rfl)) (qy hM) (fun Bs w hM  hst => qM hS.ev hst.appF rfl fun hS => ?_))
      replace hS : Ss _ _ _ H [BD] F _ _ := hS
      refine qF ?_
      replace hst := hS.st
      obtain ⟨hcl, hmust, hav2, hA⟩ := dn (vals' := [some (.int .i64 Bp), some (q7 Bu 1), some (.int .i64 ((rd Bn Bo).Len_)), some (.int .i64 Bs), some (.int .i64 (qk (Bs + (5 : Int)))), some (q7 Bu 2), some (.int .i64 ((rd Bn Bo).Dist_)), some (.int .i64 (qk ((rd Bn Bo).Dist_ - (1 : Int)))), none, none, none, none]) 3 [(2, 3), (1, 2)] hA hcl hav hm hpre hk rfl rfl rfl rfl rfl rfl rfl
      clear hm hav
      refine yx hA hst ho hcl hav2 hmust 8 [0, 4, 5, 6, 7] rfl rfl rfl rfl rfl (by exact ⟨nM rfl, nB rfl, nQ rfl (by exact qR (xn rfl Tryd.runUnderlying32 rfl Tryd.sizeOf3 rfl) rfl), nQ rfl (by exact qR (x5 0 rfl Bq rfl rfl Tryd.isAgg3) rfl), nB rfl, trivial⟩) fun D l a w ho hcl hav hpre hm hE hk hA hst => ?_
      have hS := (Ss.mk hE hst).env2 (e' := [(20, .int .i64 (qk ((rd Bn Bo).Dist_ - (1 : Int))))]) ⟨rfl, trivial⟩
      refine qP rfl <| qO hS rfl Tryd.call76 (jO hG K (qk ((rd Bn Bo).Dist_ - (1 : Int))) (1 : Int) (hS.st.part 0 [0] (by kernel_rfl)) (qy hM) (fun BA w hM  hst => qM hS.ev hst.appF rfl fun hS => ?_))
      replace hS : Ss _ _ _ H [BD] F _ _ := hS
      refine qF ?_
      replace hst := hS.st
      obtain ⟨Bt, Bx⟩ : ∃ x, x = (qk (Bp + (qk ((qk (Bs + (5 : Int))) + BA)))) := ⟨_, rfl⟩
      replace hM := qA Bx hM
      obtain ⟨hcl, hmust, hav2, hA⟩ := dn (vals' := [some (.int .i64 Bp), some (q7 Bu 1), some (.int .i64 ((rd Bn Bo).Len_)), some (.int .i64 Bs), some (.int .i64 (qk (Bs + (5 : Int)))), some (q7 Bu 2), some (.int .i64 ((rd Bn Bo).Dist_)), some (.int .i64 (qk ((rd Bn Bo).Dist_ - (1 : Int)))), some (.int .i64 BA), some (.int .i64 (qk ((qk (Bs + (5 : Int))) + BA))), some (.int .i64 (qk (Bp + (qk ((qk (Bs + (5 : Int))) + BA))))), some (.int .i64 Bt)]) 8 [(3, 8), (7, 8), (2, 3), (6, 7), (1, 2), (5, 6)] hA hcl hav hm hpre hk rfl rfl rfl rfl rfl rfl rfl
      clear hm hav
      refine xG hA hst ho hcl hmust [0, 4, 9, 10, 11] rfl rfl rfl (by exact ⟨nM rfl, nB rfl, nB rfl, nB rfl, nQ rfl (by exact qR (z8 rfl) (congrArg (Value.int .i64) Bx.symm)), trivial⟩) fun a w hS => ?_
      replace hS := hS.env2 (e' := [(4, .int .i64 Bt), (7, .slice By Bn.length Bz), (8, .int .i64 (Bn.length : Int)), (9, .int .i64 Bo)]) ⟨rfl, rfl, rfl, rfl, trivial⟩
      refine zk (zk (qg ?_))
      refine zv <| sB hS rfl fun hS => sM hS rfl fun hS => q9 <| qg ?_
      exact Br _ _ ⟨Bt, (qk (Bo + (1 : Int))), hS.to [] (by kernel_rfl) ⟨rfl, rfl, rfl, rfl, trivial⟩, hM⟩
  ·refine wp_exit ?_
   refine qx (qx (qV (qg ?_)))
   refine qu <| sM hS rfl fun hS => sA hS rfl fun hS => sA hS rfl fun hS => qF <| wp_ret ?_
   exact zJ (rs := [2, 3]) hS rfl rfl (hret Bp (0 : Int) _ (zj hM) (hS.st.pick [] (by kernel_rfl)))
theorem vk {H : xl} {F : List qs} {w : World} {R : Ending → World → Prop} {kr : Bool → Prop} {kp : Value → Prop} (hG : Gl H) (K : Nat) (Bn : List qp) (Bo : Option Addr) (Bp : Nat) (Bq : yM H [] F qp.cells Bo Bn) (Br : Bn.length ≤ Bp)
    (hS : St w H [] F) (hm : (yi.m K Bn).wp kr kp)
    (hret : ∀ (Bs : Bool) (w : World), kr Bs → St w H [] F → R (.returned (.bool Bs)) w) :
    Calls Tryd.prog 21 ⟨[.slice Bo Bn.length Bp]⟩ w R := by
 refine enter Tryd.func21 rfl Tryd.ntmps21 rfl hS fun a w hS => ?_
 have hM := hm; clear hm
 rw [yi.m] at hM
 refine qu <| sA hS rfl fun hS => qF <| qu <| sM hS rfl fun hS => qO hS rfl Tryd.call49 (ZF hG K Bn Bo Bp (Bq.app _) Br (hS.st.part 0 [] (by kernel_rfl)) (qy hM) (fun Bv Bt w hM  hst => qM hS.ev hst.appF rfl fun hS => ?_))
 replace hS : Ss _ _ _ H [] F _ _ := hS
 refine sM hS rfl fun hS => sO hS (ex rfl rfl) rfl fun hS => sO hS (ex rfl rfl) rfl fun hS => sA hS rfl fun hS => sA hS rfl fun hS => qF <| qu <| sM hS rfl fun hS => sB hS rfl fun hS => zr (v := Value.bool) (x0 := (Bt == (0 : Int))) hS (z8 rfl) rfl fun Bu a w hz hS => ?_
 have hM := qA hz hM; clear hz
 refine qF <| wp_ret ?_
 exact zJ (rs := [2]) hS rfl rfl (hret Bu _ (zj hM) (hS.st.pick [] (by kernel_rfl)))
theorem vU {H : xl} {F : List qs} {w : World} {R : Ending → World → Prop} {kr : ((List Int) × Bool) → Prop} {kp : Value → Prop} (hG : Gl H) (K : Nat) (Bn : List Int) (BJ : Option Addr) (BK : Nat) (BG : yM H [] F (ci .i64) BJ Bn) (B4 : Bn.length ≤ BK)
    (hS : St w H [] F) (hm : (zD.m K Bn).wp kr kp)
    (hret : ∀ (BL : (List Int)) (BN : Bool) (w : World), kr (BL, BN) → (BL.length = 16) → St w H [] F → R (.returned (.tuple ⟨[.agg ⟨BL.flatMap (ci .i64)⟩, .bool BN]⟩)) w) :
    Calls Tryd.prog 78 ⟨[.slice BJ Bn.length BK]⟩ w R := by
 refine enter Tryd.func78 rfl Tryd.ntmps78 rfl hS fun a w hS => ?_
 have hM := hm; clear hm
 rw [zD.m] at hM
 refine qu <| uS ((List.replicate 16 (0 : Int)).flatMap (ci .i64)) hS Tryd.zeroValue136 rfl rfl fun w Br BX Bx hS => sA hS rfl fun hS => qF <| wp_seq <| qu <| sM hS rfl fun hS => sO hS (xI rfl Tryd.runUnderlying45) rfl fun hS => sB hS rfl fun hS => qF <| qC hS rfl hM (fun BO hM => ?_) (fun BO hM => ?_)
 ·refine wp_seq ?_
  refine zv <| sO hS (Zt (xs := (List.replicate 16 (0 : Int))) (g := (ci .i64)) (pre := []) (post := []) 0 rfl Bx rfl (by simp) rfl (zP (g := (ci .i64)) (sz := 1) (fun _ => rfl) (List.length_replicate ..)) Tryd.isAgg136 Tryd.sizeOf136) rfl fun hS => ZD (xs := (List.replicate 16 (0 : Int))) (ys := (List.replicate 16 (0 : Int))) (g := (ci .i64)) (pre := []) (post := []) 0 hS rfl rfl Bx rfl (by simp) rfl (zP (g := (ci .i64)) (sz := 1) (fun _ => rfl) (List.length_replicate ..)) (zP (g := (ci .i64)) (sz := 1) (fun _ => rfl) (List.length_replicate ..)) (xb) Tryd.sizeOf136 fun w BY By hS => ?_
  replace By : x6 BY Br ((List.replicate 16 (0 : Int)).flatMap (ci .i64)) 136 := by simpa using By
  refine sA hS rfl fun hS => qF <| wp_ret <| zz ?_
  exact yF (vs := [.agg ⟨(List.replicate 16 (0 : Int)).flatMap (ci .i64)⟩, .bool false]) hS rfl (by exact ⟨UJ 0 rfl By rfl (zP (g := (ci .i64)) (sz := 1) (fun _ => rfl) (List.length_replicate ..)) Tryd.isAgg136 Tryd.sizeOf136, Kr rfl, trivial⟩) (hret (List.replicate 16 (0 : Int)) false _ (zj hM) (List.length_replicate ..) (hS.st.pick [] (by kernel_rfl)))
 ·refine wp_skip ?_
  refine qg <| qX (fun a w => ∃ (Bs : (List Int)) (BM : qs), Ss 31 [] [(2, q7 Br 0)] H [BM] F a w ∧ (Bs.length = 16) ∧ (x6 BM Br (Bs.flatMap (ci .i64)) 136) ∧ (zD.j2 K Bs).wp kr kp) (fun B5 BP => ?_) ?_
  ·refine wp_seq ?_
   refine zv <| sM hS rfl fun hS => sO hS (xI rfl Tryd.runUnderlying45) rfl fun hS => sM hS rfl fun hS => qF <| z7 <| zd (fun BQ a w => ∃ (Bo : (List Int)) (BF : qs) (Bz : Int), Ss 31 [] [(2, q7 Br 0), (10, .slice BJ Bn.length BK), (11, .int .i64 (Bn.length : Int)), (12, .int .i64 Bz)] H [BF] F a w ∧ (Bo.length = 16) ∧ (x6 BF Br (Bo.flatMap (ci .i64)) 136) ∧ (zD.l1 K Bn BQ Bo Bz).wp kr kp) K ?_ ?_ ?_
   ·exact ⟨(List.replicate 16 (0 : Int)), BX, (0 : Int), hS.to [0] (by kernel_rfl) ⟨rfl, rfl, rfl, rfl, trivial⟩, (List.length_replicate ..), Bx, hM⟩
   ·intro a w hI; obtain ⟨_, _, _, _, _, _, hM⟩ := hI; exact zc hM
   ·intro BQ a w hI B6 BR
    obtain ⟨Bo, BF, Bz, hS, Bp, Bt, hM⟩ := hI
    rw [zD.l1] at hM
    refine qu <| sB hS rfl fun hS => qF <| wp_seq <| qC hS rfl hM (fun BS hM => ?_) (fun BS hM => ?_)
    ·refine wp_skip ?_
     refine qg <| wp_seq <| z7 <| wp_seq <| zv ?_
     obtain ⟨BH, hM⟩ := qB hM
     refine sO hS (xd rfl rfl Tryd.runUnderlying45 Tryd.sizeOf3 BG.wk (fun _ => rfl) rfl BH) rfl fun hS => sO hS (x3 rfl BG.wk (fun _ => rfl) BH rfl Tryd.isAgg3) rfl fun hS => zr (v := Value.int .i64) (x0 := (rd Bn Bz)) hS (z8 rfl) rfl fun BA a w hz hS => ?_
     have hM := qA hz hM; clear hz
     refine qF <| wp_seq <| qu <| sM hS rfl fun hS => sB hS rfl fun hS => sM hS rfl fun hS => yr 2 false 18 (b := (decide (BA < (0 : Int)))) (r := (decide (BA > (15 : Int)))) hS rfl rfl rfl rfl rfl rfl rfl (fun hb a w hS K hK => ?_) rfl fun a w hS => ?_
     ·refine zF hS rfl rfl rfl hb (mv rfl) rfl fun a w hS => ?_
      refine zF hS rfl rfl rfl hb (yN rfl rfl rfl) rfl fun a w hS => ?_
      exact q9 (hK _ _ (hS.up 2 rfl rfl))
     refine qF <| qC hS rfl hM (fun BT hM => ?_) (fun BT hM => ?_)
     ·refine wp_seq ?_
      refine zv <| sO hS (Zt (xs := Bo) (g := (ci .i64)) (pre := []) (post := []) 0 rfl Bt rfl (by simp) rfl (zP (g := (ci .i64)) (sz := 1) (fun _ => rfl) Bp) Tryd.isAgg136 Tryd.sizeOf136) rfl fun hS => ZD (xs := Bo) (ys := Bo) (g := (ci .i64)) (pre := []) (post := []) 0 hS rfl rfl Bt rfl (by simp) rfl (zP (g := (ci .i64)) (sz := 1) (fun _ => rfl) Bp) (zP (g := (ci .i64)) (sz := 1) (fun _ => rfl) Bp) (xb) Tryd.sizeOf136 fun w BZ BB hS => ?_
      replace BB : x6 BZ Br (Bo.flatMap (ci .i64)) 136 := by simpa using BB
      refine sA hS rfl fun hS => qF <| wp_ret <| zz (yz (zz (zz (yz (zz ?_)))))
      exact yF (vs := [.agg ⟨Bo.flatMap (ci .i64)⟩, .bool false]) hS rfl (by exact ⟨UJ 0 rfl BB rfl (zP (g := (ci .i64)) (sz := 1) (fun _ => rfl) Bp) Tryd.isAgg136 Tryd.sizeOf136, Kr rfl, trivial⟩) (hret Bo false _ (zj hM) Bp (hS.st.pick [] (by kernel_rfl)))
     ·refine wp_skip ?_
      refine qg <| zv <| sM hS rfl fun hS => ?_
      obtain ⟨Bv, hM⟩ := qB hM
      refine sO hS (V8 rfl rfl Tryd.runUnderlying136 Tryd.sizeOf3 Bv) rfl fun hS => sO hS (Kc (xs := Bo) (g := (ci .i64)) (pre := []) (post := []) 0 rfl Bt rfl (by simp) rfl (fun _ => rfl) (jr Bp Bv) rfl Tryd.isAgg3) rfl fun hS => sB hS rfl fun hS => sO hS (V8 rfl rfl Tryd.runUnderlying136 Tryd.sizeOf3 Bv) rfl fun hS => Kg (xs := Bo) (g := (ci .i64)) (pre := []) (post := []) 0 ((qk ((rd Bo BA) + (1 : Int)))) hS rfl rfl Bt rfl (by simp) rfl (fun _ => rfl) (jr Bp Bv) rfl Tryd.sizeOf3 (xb _) fun BC w BU hz BD hS => ?_
      have BV : BC.length = 16 := by rw [hz, List.length_set]; exact Bp
      have hM := qA hz hM; clear hz
      replace BD : x6 BU Br (BC.flatMap (ci .i64)) 136 := by simpa using BD
      refine q9 <| zk (qg ?_)
      refine zv <| sB hS rfl fun hS => sM hS rfl fun hS => q9 <| qg ?_
      exact BR _ _ ⟨BC, BU, (qk (Bz + (1 : Int))), hS.to [0] (by kernel_rfl) ⟨rfl, rfl, rfl, rfl, trivial⟩, BV, BD, hM⟩
    ·refine wp_exit ?_
     refine qx (qx (qV (qg ?_)))
     exact BP _ _ ⟨Bo, BF, hS.to [0] (by kernel_rfl) ⟨rfl, trivial⟩, Bp, Bt, hM⟩
  ·intro a w hI
   obtain ⟨Bs, BM, hS, BI, BW, hM⟩ := hI
   rw [zD.j2] at hM
   refine qu <| sO hS (V8 rfl rfl Tryd.runUnderlying136 Tryd.sizeOf3 rfl) rfl fun hS => Kg (xs := Bs) (g := (ci .i64)) (pre := []) (post := []) 0 ((0 : Int)) hS rfl rfl BW rfl (by simp) rfl (fun _ => rfl) (jr BI rfl) rfl Tryd.sizeOf3 (xb _) fun Bq w B0 hz Bw hS => ?_
   have Bu : Bq.length = 16 := by rw [hz, List.length_set]; exact BI
   have hM := qA hz hM; clear hz
   replace Bw : x6 B0 Br (Bq.flatMap (ci .i64)) 136 := by simpa using Bw
   refine qF <| qu <| sO hS (Zt (xs := Bq) (g := (ci .i64)) (pre := []) (post := []) 0 rfl Bw rfl (by simp) rfl (zP (g := (ci .i64)) (sz := 1) (fun _ => rfl) Bu) Tryd.isAgg136 Tryd.sizeOf136) rfl fun hS => ZD (xs := Bq) (ys := Bq) (g := (ci .i64)) (pre := []) (post := []) 0 hS rfl rfl Bw rfl (by simp) rfl (zP (g := (ci .i64)) (sz := 1) (fun _ => rfl) Bu) (zP (g := (ci .i64)) (sz := 1) (fun _ => rfl) Bu) (xb) Tryd.sizeOf136 fun w B3 BE hS => ?_
   replace BE : x6 B3 Br (Bq.flatMap (ci .i64)) 136 := by simpa using BE
   refine sA hS rfl fun hS => qF <| wp_ret ?_
   exact yF (vs := [.agg ⟨Bq.flatMap (ci .i64)⟩, .bool true]) hS rfl (by exact ⟨UJ 0 rfl BE rfl (zP (g := (ci .i64)) (sz := 1) (fun _ => rfl) Bu) Tryd.isAgg136 Tryd.sizeOf136, Kr rfl, trivial⟩) (hret Bq true _ (zj hM) Bu (hS.st.pick [] (by kernel_rfl)))
theorem Zl {H : xl} {F : List qs} {w : World} {R : Ending → World → Prop} {kr : Int → Prop} {kp : Value → Prop} (hG : Gl H) (K : Nat) (Bn : List Int) (Bu : Option Addr) (Bv : Nat) (Bz : yM H [] F (ci .i64) Bu Bn) (BA : Bn.length ≤ Bv)
    (hS : St w H [] F) (hm : (zO.m K Bn).wp kr kp)
    (hret : ∀ (BB : Int) (w : World), kr BB → St w H [] F → R (.returned (.int .i64 BB)) w) :
    Calls Tryd.prog 77 ⟨[.slice Bu Bn.length Bv]⟩ w R := by
 refine enter Tryd.func77 rfl Tryd.ntmps77 rfl hS fun a w hS => ?_
 have hM := hm; clear hm
 rw [zO.m] at hM
 refine qu <| sA hS rfl fun hS => qF <| qu <| sM hS rfl fun hS => qO hS rfl Tryd.call78 (vU hG K Bn Bu Bv (Bz.app _) BA (hS.st.part 0 [] (by kernel_rfl)) (qy hM) (fun Bq BM w hM Bt hst => qM hS.ev hst.appF rfl fun hS => ?_))
 replace hS : Ss _ _ _ H [] F _ _ := hS
 refine sM hS rfl fun hS => sO hS (ex rfl rfl) rfl fun hS => sO hS (ex rfl rfl) rfl fun hS => uS ((List.replicate 16 (0 : Int)).flatMap (ci .i64)) hS Tryd.zeroValue136 rfl rfl fun w Bw BN BC hS => ZD (xs := (List.replicate 16 (0 : Int))) (ys := Bq) (g := (ci .i64)) (pre := []) (post := []) 0 hS rfl rfl BC rfl (by simp) rfl (zP (g := (ci .i64)) (sz := 1) (fun _ => rfl) (List.length_replicate ..)) (zP (g := (ci .i64)) (sz := 1) (fun _ => rfl) Bt) (xb) Tryd.sizeOf136 fun w Bx Br hS => ?_
 replace Br : x6 Bx Bw (Bq.flatMap (ci .i64)) 136 := by simpa using Br
 refine sA hS rfl fun hS => qF <| wp_seq <| qu <| sM hS rfl fun hS => sO hS (un rfl rfl) rfl fun hS => qF <| qC hS rfl hM (fun BD hM => ?_) (fun BD hM => ?_)
 ·refine wp_seq ?_
  refine zv <| sA hS rfl fun hS => qF <| wp_ret <| zz ?_
  exact zJ (rs := [2]) hS rfl rfl (hret (1 : Int) _ (zj hM) (hS.st.pick [] (by kernel_rfl)))
 ·refine wp_skip ?_
  refine qg <| qu <| sA hS rfl fun hS => qF <| qX (fun a w => ∃ (Bo : Int), Ss 38 [] [(3, q7 Bw 0), (5, .int .i64 Bo)] H [Bx] F a w ∧ (zO.j2 K Bq Bo).wp kr kp) (fun BO BE => ?_) ?_
  ·refine wp_seq ?_
   refine zv <| sO hS (Zt (xs := Bq) (g := (ci .i64)) (pre := []) (post := []) 0 rfl Br rfl (by simp) rfl (zP (g := (ci .i64)) (sz := 1) (fun _ => rfl) Bt) Tryd.isAgg136 Tryd.sizeOf136) rfl fun hS => sM hS rfl fun hS => qF <| z7 <| zd (fun BF a w => ∃ (Bp : Int) (Bs : Int), Ss 38 [] [(3, q7 Bw 0), (5, .int .i64 Bp), (15, .agg ⟨Bq.flatMap (ci .i64)⟩), (16, .int .i64 Bs)] H [Bx] F a w ∧ (zO.l1 K Bq BF Bp Bs).wp kr kp) K ?_ ?_ ?_
   ·exact ⟨(0 : Int), (0 : Int), hS.to [0] (by kernel_rfl) ⟨rfl, rfl, rfl, rfl, trivial⟩, hM⟩
   ·intro a w hI; obtain ⟨_, _, _, hM⟩ := hI; exact zc hM
   ·intro BF a w hI BP BG
    obtain ⟨Bp, Bs, hS, hM⟩ := hI
    rw [zO.l1] at hM
    refine qu <| sB hS rfl fun hS => qF <| wp_seq <| qC hS rfl hM (fun BH hM => ?_) (fun BH hM => ?_)
    ·refine wp_skip ?_
     refine qg <| wp_seq <| z7 <| qu <| sM hS rfl fun hS => ?_
     obtain ⟨BI, hM⟩ := qB hM
     refine sO hS (KK rfl rfl Tryd.runUnderlying136 Tryd.isAgg3 Tryd.sizeOf3 (fun _ => rfl) Bt BI rfl) rfl fun hS => sA hS rfl fun hS => zr (v := Value.int .i64) (x0 := (rd Bq Bs)) hS (z8 rfl) rfl fun BJ a w hz hS => ?_
     have hM := qA hz hM; clear hz
     refine qF <| zv <| sM hS rfl fun hS => sM hS rfl fun hS => sM hS rfl fun hS => ?_
     obtain ⟨BK, hM⟩ := qB hM
     refine sO hS (shr rfl rfl BK) rfl fun hS => sB hS rfl fun hS => sB hS rfl fun hS => zr (v := Value.int .i64) (x0 := (qk (Bp + (qk (BJ * (zR .i64 (32768 : Int) Bs)))))) hS (z8 rfl) rfl fun By a w hz hS => ?_
     have hM := qA hz hM; clear hz
     refine q9 <| zk (qg ?_)
     refine zv <| sB hS rfl fun hS => sM hS rfl fun hS => q9 <| qg ?_
     exact BG _ _ ⟨By, (qk (Bs + (1 : Int))), hS.to [0] (by kernel_rfl) ⟨rfl, rfl, rfl, rfl, trivial⟩, hM⟩
    ·refine wp_exit ?_
     refine qx (qx (qV (qg ?_)))
     exact BE _ _ ⟨Bp, hS.to [0] (by kernel_rfl) ⟨rfl, rfl, trivial⟩, hM⟩
  ·intro a w hI
   obtain ⟨Bo, hS, hM⟩ := hI
   rw [zO.j2] at hM
   refine wp_seq <| qu <| sM hS rfl fun hS => sB hS rfl fun hS => sM hS rfl fun hS => yr 2 false 29 (b := (Bo == (0 : Int))) (r := (Bo == (32768 : Int))) hS rfl rfl rfl rfl rfl rfl rfl (fun hb a w hS K hK => ?_) rfl fun a w hS => ?_
   ·refine zF hS rfl rfl rfl hb (mv rfl) rfl fun a w hS => ?_
    refine zF hS rfl rfl rfl hb (yN rfl rfl rfl) rfl fun a w hS => ?_
    exact q9 (hK _ _ (hS.up 2 rfl rfl))
   refine sM hS rfl fun hS => yr 3 false 33 (b := ((Bo == (0 : Int)) || (Bo == (32768 : Int)))) (r := (Bq == ([0, (1 : Int), 0, 0, 0, 0, 0, 0, 0, 0, 0, 0, 0, 0, 0, 0] : List Int))) hS rfl rfl rfl rfl rfl rfl rfl (fun hb a w hS K hK => ?_) rfl fun a w hS => ?_
   ·refine zF hS rfl rfl rfl hb (Zt (xs := Bq) (g := (ci .i64)) (pre := []) (post := []) 0 rfl Br rfl (by simp) rfl (zP (g := (ci .i64)) (sz := 1) (fun _ => rfl) Bt) Tryd.isAgg136 Tryd.sizeOf136) rfl fun a w hS => ?_
    refine zF hS rfl rfl rfl hb (Ub (([0, (1 : Int), 0, 0, 0, 0, 0, 0, 0, 0, 0, 0, 0, 0, 0, 0] : List Int).flatMap (ci .i64)) Tryd.zeroValue136 Tryd.runUnderlying136 Tryd.sizeOf3 rfl (by kernel_rfl)) rfl fun a w hS => zF hS rfl rfl rfl hb (UM rfl rfl Tryd.runUnderlying136 Tryd.runUnderlying3 Tryd.sizeOf3 Tryd.isAgg3 Bt rfl Tryd.eqGuardType136 rfl) rfl fun a w hS => ?_
    exact q9 (hK _ _ (hS.up 3 rfl rfl))
   refine qF <| qC hS rfl hM (fun BL hM => ?_) (fun BL hM => ?_)
   ·refine wp_seq ?_
    refine zv <| sA hS rfl fun hS => qF <| wp_ret <| zz ?_
    exact zJ (rs := [2]) hS rfl rfl (hret (0 : Int) _ (zj hM) (hS.st.pick [] (by kernel_rfl)))
   ·refine wp_skip ?_
    refine qg <| qu <| sA hS rfl fun hS => qF <| wp_ret ?_
    exact zJ (rs := [2]) hS rfl rfl (hret (3 : Int) _ (zj hM) (hS.st.pick [] (by kernel_rfl)))
theorem vf {H : xl} {F : List qs} {w : World} {R : Ending → World → Prop} {kr : (List Int) → Prop} {kp : Value → Prop} (hG : Gl H) (K : Nat) (Bq : List Int) (BG : Bq.length = 16)
    (hS : St w H [] F) (hm : (zg.m K Bq).wp kr kp)
    (hret : ∀ (BE : (List Int)) (w : World), kr BE → (BE.length = 16) → St w H [] F → R (.returned (.agg ⟨BE.flatMap (ci .i64)⟩)) w) :
    Calls Tryd.prog 79 ⟨[.agg ⟨Bq.flatMap (ci .i64)⟩]⟩ w R := by
 refine enter Tryd.func79 rfl Tryd.ntmps79 rfl hS fun a w hS => ?_
 have hM := hm; clear hm
 rw [zg.m] at hM
 refine qu <| bx (Bq.flatMap (ci .i64)) hS rfl rfl rfl fun w BQ BR BH hS => uS ((List.replicate 16 (0 : Int)).flatMap (ci .i64)) hS Tryd.zeroValue136 rfl rfl fun w Bu BS BI hS => qF <| qu <| sA hS rfl fun hS => qF <| qX (fun a w => ∃ (Bn : (List Int)) (BF : qs), Ss 20 [] [(2, q7 Bu 0)] H [BF] F a w ∧ (Bn.length = 16) ∧ (x6 BF Bu (Bn.flatMap (ci .i64)) 136) ∧ (zg.j2 K Bn).wp kr kp) (fun BU BJ => ?_) ?_
 ·refine wp_seq ?_
  refine zv <| sA hS rfl fun hS => qF <| z7 <| zd (fun BK a w => ∃ (Bo : (List Int)) (Bz : qs) (Bp : Int) (Br : Int), Ss 20 [] [(1, q7 BQ 0), (2, q7 Bu 0), (3, .int .i64 Bp), (4, .int .i64 Br)] H [BR, Bz] F a w ∧ (Bo.length = 16) ∧ (x6 Bz Bu (Bo.flatMap (ci .i64)) 136) ∧ (zg.l1 K Bq BK Bo Bp Br).wp kr kp) K ?_ ?_ ?_
  ·exact ⟨(List.replicate 16 (0 : Int)), BS, (0 : Int), (1 : Int), hS.to [1, 0] (by kernel_rfl) ⟨rfl, rfl, rfl, rfl, trivial⟩, (List.length_replicate ..), BI, hM⟩
  ·intro a w hI; obtain ⟨_, _, _, _, _, _, _, hM⟩ := hI; exact zc hM
  ·intro BK a w hI BV BL
   obtain ⟨Bo, Bz, Bp, Br, hS, Bv, BA, hM⟩ := hI
   rw [zg.l1] at hM
   refine wp_seq <| qu <| sM hS rfl fun hS => sB hS rfl fun hS => qF <| qC hS rfl hM (fun BM hM => ?_) (fun BM hM => ?_)
   ·refine wp_skip ?_
    refine qg <| wp_seq <| z7 <| qu <| sM hS rfl fun hS => sM hS rfl fun hS => sB hS rfl fun hS => ?_
    obtain ⟨BB, hM⟩ := qB hM
    refine sO hS (V8 rfl rfl Tryd.runUnderlying136 Tryd.sizeOf3 BB) rfl fun hS => sO hS (Kc (xs := Bq) (g := (ci .i64)) (pre := []) (post := []) 0 rfl BH rfl (by simp) rfl (fun _ => rfl) (jr BG BB) rfl Tryd.isAgg3) rfl fun hS => sB hS rfl fun hS => sO hS (shl rfl rfl rfl) rfl fun hS => zr (v := Value.int .i64) (x0 := (zV .i64 (qk (Bp + (rd Bq (qk (Br - (1 : Int)))))) (1 : Int))) hS (z8 rfl) rfl fun Bt a w hz hS => ?_
    have hM := qA hz hM; clear hz
    refine qF <| zv <| sM hS rfl fun hS => sM hS rfl fun hS => ?_
    obtain ⟨BC, hM⟩ := qB hM
    refine sO hS (V8 rfl rfl Tryd.runUnderlying136 Tryd.sizeOf3 BC) rfl fun hS => Kg (xs := Bo) (g := (ci .i64)) (pre := []) (post := []) 1 (Bt) hS rfl rfl BA rfl (by simp) rfl (fun _ => rfl) (jr Bv BC) rfl Tryd.sizeOf3 (xb _) fun Bw w BN hz Bx hS => ?_
    have BO : Bw.length = 16 := by rw [hz, List.length_set]; exact Bv
    have hM := qA hz hM; clear hz
    replace Bx : x6 BN Bu (Bw.flatMap (ci .i64)) 136 := by simpa using Bx
    refine q9 <| zk (qg ?_)
    refine zv <| sM hS rfl fun hS => sB hS rfl fun hS => zr (v := Value.int .i64) (x0 := (qk (Br + (1 : Int)))) hS (z8 rfl) rfl fun BP a w hz hS => ?_
    have hM := qA hz hM; clear hz
    refine q9 <| qg ?_
    exact BL _ _ ⟨Bw, BN, Bt, BP, hS.to [0, 1] (by kernel_rfl) ⟨rfl, rfl, rfl, rfl, trivial⟩, BO, Bx, hM⟩
   ·refine wp_exit ?_
    refine qx (qx (qV (qg ?_)))
    exact BJ _ _ ⟨Bo, Bz, hS.to [1] (by kernel_rfl) ⟨rfl, trivial⟩, Bv, BA, hM⟩
 ·intro a w hI
  obtain ⟨Bn, BF, hS, Bs, BD, hM⟩ := hI
  rw [zg.j2] at hM
  refine qu <| sO hS (Zt (xs := Bn) (g := (ci .i64)) (pre := []) (post := []) 0 rfl BD rfl (by simp) rfl (zP (g := (ci .i64)) (sz := 1) (fun _ => rfl) Bs) Tryd.isAgg136 Tryd.sizeOf136) rfl fun hS => ZD (xs := Bn) (ys := Bn) (g := (ci .i64)) (pre := []) (post := []) 0 hS rfl rfl BD rfl (by simp) rfl (zP (g := (ci .i64)) (sz := 1) (fun _ => rfl) Bs) (zP (g := (ci .i64)) (sz := 1) (fun _ => rfl) Bs) (xb) Tryd.sizeOf136 fun w BT By hS => ?_
  replace By : x6 BT Bu (Bn.flatMap (ci .i64)) 136 := by simpa using By
  refine qF <| wp_ret ?_
  exact yF (vs := [.agg ⟨Bn.flatMap (ci .i64)⟩]) hS rfl (by exact ⟨UJ 0 rfl By rfl (zP (g := (ci .i64)) (sz := 1) (fun _ => rfl) Bs) Tryd.isAgg136 Tryd.sizeOf136, trivial⟩) (hret Bn _ (zj hM) Bs (hS.st.pick [] (by kernel_rfl)))
theorem Zs {H : xl} {F : List qs} {w : World} {R : Ending → World → Prop} {kr : ((List Int) × Int) → Prop} {kp : Value → Prop} (hG : Gl H) (K : Nat) (Bn : List Int) (By : Option Addr) (Bz : Nat) (Bv : yM H [] F (ci .i64) By Bn) (BK : Bn.length ≤ Bz)
    (hS : St w H [] F) (hm : (xk.m K Bn).wp kr kp)
    (hret : ∀ (BT : Option Addr) (BU : Nat) (BP : (List Int)) (BV : qs) (BW : Int) (w : World), kr (BP, BW) → (zC 3 (ci .i64) 1 BT BP BU BV) → St w H [BV] F → R (.returned (.tuple ⟨[.slice BT BP.length BU, .int .i64 BW]⟩)) w) :
    Calls Tryd.prog 53 ⟨[.slice By Bn.length Bz]⟩ w R := by
 refine enter Tryd.func53 rfl Tryd.ntmps53 rfl hS fun a w hS => ?_
 have hM := hm; clear hm
 rw [xk.m] at hM
 refine qu <| sA hS rfl fun hS => ?_
 obtain ⟨BQ, Dl, hS⟩ := hS.nilV 3 (ci .i64) 1
 refine sA hS rfl fun hS => qF <| wp_seq <| qu <| sM hS rfl fun hS => qO hS rfl Tryd.call77 (Zl hG K Bn By Bz (Bv.app _) BK (hS.st.part 0 [0] (by kernel_rfl)) (qy hM) (fun Dg w hM  hst => qM hS.ev hst.appF rfl fun hS => ?_))
 replace hS : Ss _ _ _ H [BQ] F _ _ := hS
 refine sA hS rfl fun hS => qF <| qu <| sM hS rfl fun hS => sB hS rfl fun hS => qF <| qC hS rfl hM (fun BX hM => ?_) (fun BX hM => ?_)
 ·refine wp_seq ?_
  refine zv <| sM hS rfl fun hS => sA hS rfl fun hS => ?_
  obtain ⟨Dh, BY, hS⟩ := hS.nilV 3 (ci .i64) 1
  refine sA hS rfl fun hS => qF <| wp_ret <| zz ?_
  exact zJ (rs := [2, 3]) hS rfl rfl (hret none (0) ([] : List Int) Dh Dg _ (zj hM) BY (hS.st.pick [0] (by kernel_rfl)))
 ·refine wp_skip ?_
  refine qg <| qu <| sM hS rfl fun hS => qO hS rfl Tryd.call78 (vU hG K Bn By Bz (Bv.app _) BK (hS.st.part 0 [0] (by kernel_rfl)) (qy hM) (fun BH Dm w hM BR hst => qM hS.ev hst.appF rfl fun hS => ?_))
  replace hS : Ss _ _ _ H [BQ] F _ _ := hS
  refine sM hS rfl fun hS => sO hS (ex rfl rfl) rfl fun hS => sO hS (ex rfl rfl) rfl fun hS => uS ((List.replicate 16 (0 : Int)).flatMap (ci .i64)) hS Tryd.zeroValue136 rfl rfl fun w Di Dn BZ hS => ZD (xs := (List.replicate 16 (0 : Int))) (ys := BH) (g := (ci .i64)) (pre := []) (post := []) 0 hS rfl rfl BZ rfl (by simp) rfl (zP (g := (ci .i64)) (sz := 1) (fun _ => rfl) (List.length_replicate ..)) (zP (g := (ci .i64)) (sz := 1) (fun _ => rfl) BR) (xb) Tryd.sizeOf136 fun w B0 BA hS => ?_
  replace BA : x6 B0 Di (BH.flatMap (ci .i64)) 136 := by simpa using BA
  refine sA hS rfl fun hS => qF <| qu <| sO hS (Zt (xs := BH) (g := (ci .i64)) (pre := []) (post := []) 0 rfl BA rfl (by simp) rfl (zP (g := (ci .i64)) (sz := 1) (fun _ => rfl) BR) Tryd.isAgg136 Tryd.sizeOf136) rfl fun hS => qO hS rfl Tryd.call79 (vf hG K BH BR (hS.st.part 0 [0, 1] (by kernel_rfl)) (qy hM) (fun BS w hM B3 hst => qM hS.ev hst.appF rfl fun hS => ?_))
  replace hS : Ss _ _ _ H [B0, BQ] F _ _ := hS
  refine uS ((List.replicate 16 (0 : Int)).flatMap (ci .i64)) hS Tryd.zeroValue136 rfl rfl fun w BI Do B4 hS => ZD (xs := (List.replicate 16 (0 : Int))) (ys := BS) (g := (ci .i64)) (pre := []) (post := []) 0 hS rfl rfl B4 rfl (by simp) rfl (zP (g := (ci .i64)) (sz := 1) (fun _ => rfl) (List.length_replicate ..)) (zP (g := (ci .i64)) (sz := 1) (fun _ => rfl) B3) (xb) Tryd.sizeOf136 fun w B5 BB hS => ?_
  replace BB : x6 B5 BI (BS.flatMap (ci .i64)) 136 := by simpa using BB
  refine qF <| qu <| sM hS rfl fun hS => sO hS (xI rfl Tryd.runUnderlying45) rfl fun hS => ?_
  obtain ⟨B6, hM⟩ := qB hM
  refine VM (g := (ci .i64)) (m := (Bn.length : Int)) (0 : Int) hS rfl rfl (by simp) Tryd.runUnderlying45 X.el3 (fun w => ⟨_, Tryd.zeroValue3 w, rfl⟩) (fun _ => rfl) rfl rfl B6 rfl fun B7 w Bs Bt Dj hz B8 hS => ?_
  have hM := qA hz hM; clear hz
  refine sA hS rfl fun hS => qF <| wp_seq <| qu <| sM hS rfl fun hS => sO hS (xI rfl Tryd.runUnderlying45) rfl fun hS => sM hS rfl fun hS => qF <| z7 <| zd (fun B9 a w => ∃ (Bo : (List Int)) (BJ : qs) (Bp : (List Int)) (BC : qs) (Bu : Int), Ss 48 [] [(7, q7 BI 0), (8, .slice Bs Bp.length Bt), (26, .slice By Bn.length Bz), (27, .int .i64 (Bn.length : Int)), (28, .int .i64 Bu)] H [BJ, BC] F a w ∧ (Bo.length = 16) ∧ (x6 BJ BI (Bo.flatMap (ci .i64)) 136) ∧ (zC 3 (ci .i64) 1 Bs Bp Bt BC) ∧ (xk.l1 K Bn B9 Bo Bp Bu).wp kr kp) K ?_ ?_ ?_
  ·exact ⟨BS, B5, B7, Dj, (0 : Int), hS.to [1, 0] (by kernel_rfl) ⟨rfl, rfl, rfl, rfl, rfl, trivial⟩, B3, BB, B8, hM⟩
  ·intro a w hI; obtain ⟨_, _, _, _, _, _, _, _, _, hM⟩ := hI; exact zc hM
  ·intro B9 a w hI Dp BL
   obtain ⟨Bo, BJ, Bp, BC, Bu, hS, Br, Bw, Bx, hM⟩ := hI
   rw [xk.l1] at hM
   refine qu <| sB hS rfl fun hS => qF <| wp_seq <| qC hS rfl hM (fun Da hM => ?_) (fun Da hM => ?_)
   ·refine wp_skip ?_
    refine qg <| wp_seq <| z7 <| qu <| sM hS rfl fun hS => ?_
    obtain ⟨BM, hM⟩ := qB hM
    refine sO hS (xd rfl rfl Tryd.runUnderlying45 Tryd.sizeOf3 Bv.wk (fun _ => rfl) rfl BM) rfl fun hS => sO hS (x3 rfl Bv.wk (fun _ => rfl) BM rfl Tryd.isAgg3) rfl fun hS => sA hS rfl fun hS => zr (v := Value.int .i64) (x0 := (rd Bn Bu)) hS (z8 rfl) rfl fun BD a w hz hS => ?_
    have hM := qA hz hM; clear hz
    refine qF <| qu <| sM hS rfl fun hS => sB hS rfl fun hS => qF <| qC hS rfl hM (fun Db hM => ?_) (fun Db hM => ?_)
    ·refine wp_seq ?_
     refine zv <| sM hS rfl fun hS => sM hS rfl fun hS => sM hS rfl fun hS => ?_
     obtain ⟨Bq, hM⟩ := qB hM
     refine sO hS (V8 rfl rfl Tryd.runUnderlying136 Tryd.sizeOf3 Bq) rfl fun hS => sO hS (Kc (xs := Bo) (g := (ci .i64)) (pre := []) (post := []) 0 rfl Bw rfl (by simp) rfl (fun _ => rfl) (jr Br Bq) rfl Tryd.isAgg3) rfl fun hS => ?_
     obtain ⟨BN, hM⟩ := qB hM
     refine sO hS (xd rfl rfl Tryd.runUnderlying45 Tryd.sizeOf3 (Bx.rd (i := 1) rfl) (fun _ => rfl) rfl BN) rfl fun hS => Xf (i := Bu) (sz := 1) 1 0 ((rd Bo BD)) hS rfl rfl Bx rfl Tryd.sizeOf3 (xb (rd Bo BD)) (fun _ => rfl) BN rfl rfl fun BE w Dk hz BO Dc hS => ?_
     have hM := qA hz hM; clear hz
     replace hS := hS.re 8 (u := .slice Bs Bp.length Bt) (v := .slice Bs BE.length Bt) rfl (by rw [BO])
     replace hS := hS.re 35 (u := .slice Bs Bp.length Bt) (v := .slice Bs BE.length Bt) rfl (by rw [BO])
     refine qF <| zv <| sM hS rfl fun hS => sO hS (V8 rfl rfl Tryd.runUnderlying136 Tryd.sizeOf3 Bq) rfl fun hS => sO hS (Kc (xs := Bo) (g := (ci .i64)) (pre := []) (post := []) 0 rfl Bw rfl (by simp) rfl (fun _ => rfl) (jr Br Bq) rfl Tryd.isAgg3) rfl fun hS => sB hS rfl fun hS => sO hS (V8 rfl rfl Tryd.runUnderlying136 Tryd.sizeOf3 Bq) rfl fun hS => Kg (xs := Bo) (g := (ci .i64)) (pre := []) (post := []) 0 ((qk ((rd Bo BD) + (1 : Int)))) hS rfl rfl Bw rfl (by simp) rfl (fun _ => rfl) (jr Br Bq) rfl Tryd.sizeOf3 (xb _) fun BF w De hz BG hS => ?_
     have Df : BF.length = 16 := by rw [hz, List.length_set]; exact Br
     have hM := qA hz hM; clear hz
     replace BG : x6 De BI (BF.flatMap (ci .i64)) 136 := by simpa using BG
     refine q9 <| zk (qg ?_)
     refine zv <| sB hS rfl fun hS => sM hS rfl fun hS => q9 <| qg ?_
     exact BL _ _ ⟨BF, De, BE, Dk, (qk (Bu + (1 : Int))), hS.to [0, 1] (by kernel_rfl) ⟨rfl, rfl, rfl, rfl, rfl, trivial⟩, Df, BG, Dc, hM⟩
    ·refine wp_skip ?_
     refine zk (qg ?_)
     refine zv <| sB hS rfl fun hS => sM hS rfl fun hS => q9 <| qg ?_
     exact BL _ _ ⟨Bo, BJ, Bp, BC, (qk (Bu + (1 : Int))), hS.to [0, 1] (by kernel_rfl) ⟨rfl, rfl, rfl, rfl, rfl, trivial⟩, Br, Bw, Bx, hM⟩
   ·refine wp_exit ?_
    refine qx (qx (qV (qg ?_)))
    refine qu <| sM hS rfl fun hS => sA hS rfl fun hS => sA hS rfl fun hS => qF <| wp_ret ?_
    exact zJ (rs := [2, 3]) hS rfl rfl (hret Bs Bt Bp BC (0 : Int) _ (zj hM) Bx (hS.st.pick [1] (by kernel_rfl)))
theorem xU {H : xl} {F : List qs} {w : World} {R : Ending → World → Prop} {kr : (List Int) → Prop} {kp : Value → Prop} (hG : Gl H) (K : Nat) (Bn : List Int) (Bp : Option Addr) (Bq : Nat) (Bu : yM H [] F (ci .i64) Bp Bn) (Bv : Bn.length ≤ Bq)
    (hS : St w H [] F) (hm : (xo.m K Bn).wp kr kp)
    (hret : ∀ (Bw : Option Addr) (Bx : Nat) (Bo : (List Int)) (By : qs) (w : World), kr Bo → (zC 3 (ci .i64) 1 Bw Bo Bx By) → St w H [By] F → R (.returned (.agg ⟨[.slice Bp Bn.length Bq, .slice Bw Bo.length Bx]⟩)) w) :
    Calls Tryd.prog 37 ⟨[.slice Bp Bn.length Bq]⟩ w R := by
 refine enter Tryd.func37 rfl Tryd.ntmps37 rfl hS fun a w hS => ?_
 have hM := hm; clear hm
 rw [xo.m] at hM
 refine qu <| uS ([.slice none 0 0, .slice none 0 0]) hS Tryd.zeroValue47 rfl rfl fun w BI BC Bz hS => ?_
 obtain ⟨BD, BG, hS⟩ := hS.nilV 3 (ci .i64) 1
 obtain ⟨BE, BH, hS⟩ := hS.nilV 3 (ci .i64) 1
 refine qF <| qu <| sM hS rfl fun hS => qO hS rfl Tryd.call53 (Zs hG K Bn Bp Bq (Bu.app _) Bv (hS.st.part 0 [0, 1, 2] (by kernel_rfl)) (qy hM) (fun Br Bs Bt BA BJ w hM BF hst => qM hS.ev hst.appF rfl fun hS => ?_))
 replace hS : Ss _ _ _ H [BA, BE, BD, BC] F _ _ := hS
 refine sM hS rfl fun hS => sO hS (ex rfl rfl) rfl fun hS => sO hS (ex rfl rfl) rfl fun hS => sA hS rfl fun hS => sA hS rfl fun hS => qF <| qu <| sM hS rfl fun hS => sM hS rfl fun hS => sO hS (Xe ([.slice Bp Bn.length Bq, .slice Br Bt.length Bs]) [(0, 1), (1, 1)] Tryd.zeroValue47 Tryd.runUnderlying47 (by intro w; simp [Tryd.sizeOf45]) rfl rfl) rfl fun hS => uX 3 ([.slice Bp Bn.length Bq, .slice Br Bt.length Bs]) ([.slice Bp Bn.length Bq, .slice Br Bt.length Bs]) hS rfl rfl Bz rfl rfl Tryd.sizeOf47 (by simp [Value.oneCell']) (Nat.le_of_ble_eq_true rfl) rfl fun w BK BB hS => qF <| wp_ret ?_
 exact yF (vs := [.agg ⟨[.slice Bp Bn.length Bq, .slice Br Bt.length Bs]⟩]) hS rfl (by exact ⟨Ve 3 ([.slice Bp Bn.length Bq, .slice Br Bt.length Bs]) rfl BB rfl rfl rfl Tryd.isAgg47 Tryd.sizeOf47, trivial⟩) (hret Br Bs Bt BA _ (zj hM) BF (hS.st.pick [0] (by kernel_rfl)))
theorem vt {H : xl} {F : List qs} {w : World} {R : Ending → World → Prop} {kr : ((List Int) × (List Int) × (List Int) × (List Int)) → Prop} {kp : Value → Prop} (hG : Gl H) (K : Nat)
    (hS : St w H [] F) (hm : (qN.m K).wp kr kp)
    (hret : ∀ (Dg : Option Addr) (Dh : Nat) (Bt : (List Int)) (Di : qs) (Dj : Option Addr) (Dk : Nat) (By : (List Int)) (Dl : qs) (Dm : Option Addr) (Dn : Nat) (Bu : (List Int)) (Do : qs) (Dp : Option Addr) (Dq : Nat) (Bz : (List Int)) (Dr : qs) (w : World), kr (Bt, By, Bu, Bz) → (zC 3 (ci .i64) 1 Dg Bt Dh Di) → (zC 3 (ci .i64) 1 Dj By Dk Dl) → (zC 3 (ci .i64) 1 Dm Bu Dn Do) → (zC 3 (ci .i64) 1 Dp Bz Dq Dr) → St w H [Di, Dl, Do, Dr] F → R (.returned (.tuple ⟨[.agg ⟨[.slice Dg Bt.length Dh, .slice Dj By.length Dk]⟩, .agg ⟨[.slice Dm Bu.length Dn, .slice Dp Bz.length Dq]⟩]⟩)) w) :
    Calls Tryd.prog 22 ⟨[]⟩ w R := by
 refine enter Tryd.func22 rfl Tryd.ntmps22 rfl hS fun a w hS => ?_
 have hM := hm; clear hm
 rw [qN.m] at hM
 refine qu <| uS ([.slice none 0 0, .slice none 0 0]) hS Tryd.zeroValue47 rfl rfl fun w B0 BE Dt hS => ?_
 obtain ⟨BF, DX, hS⟩ := hS.nilV 3 (ci .i64) 1
 obtain ⟨BG, DY, hS⟩ := hS.nilV 3 (ci .i64) 1
 refine uS ([.slice none 0 0, .slice none 0 0]) hS Tryd.zeroValue47 rfl rfl fun w B3 BH Du hS => ?_
 obtain ⟨BI, DZ, hS⟩ := hS.nilV 3 (ci .i64) 1
 obtain ⟨BJ, D0, hS⟩ := hS.nilV 3 (ci .i64) 1
 refine qF <| wp_seq <| zv ?_
 obtain ⟨Dv, hM⟩ := qB hM
 refine VM (g := (ci .i64)) (m := (288 : Int)) (0 : Int) hS rfl rfl (by simp) Tryd.runUnderlying45 X.el3 (fun w => ⟨_, Tryd.zeroValue3 w, rfl⟩) (fun _ => rfl) rfl rfl Dv rfl fun BL w Bn Bo DP hz Dw hS => ?_
 have hM := qA hz hM; clear hz
 refine sA hS rfl fun hS => qF <| qX (fun a w => ∃ (Bp : (List Int)) (BC : qs), Ss 46 [] [(0, q7 B0 0), (1, q7 B3 0), (2, .slice Bn Bp.length Bo)] H [BE, BF, BG, BH, BI, BJ, BC] F a w ∧ (zC 3 (ci .i64) 1 Bn Bp Bo BC) ∧ (qN.j2 K Bp).wp kr kp) (fun D1 Dx => ?_) ?_
 ·refine wp_seq ?_
  refine zv <| sM hS rfl fun hS => sO hS (xI rfl Tryd.runUnderlying45) rfl fun hS => sM hS rfl fun hS => qF <| z7 <| zd (fun Dy a w => ∃ (Bq : (List Int)) (B4 : qs) (Bv : Int), Ss 46 [] [(0, q7 B0 0), (1, q7 B3 0), (2, .slice Bn Bq.length Bo), (8, .int .i64 (BL.length : Int)), (9, .int .i64 Bv)] H [BE, BF, BG, BH, BI, BJ, B4] F a w ∧ (zC 3 (ci .i64) 1 Bn Bq Bo B4) ∧ (qN.l1 K BL Dy Bq Bv).wp kr kp) K ?_ ?_ ?_
  ·exact ⟨BL, DP, (0 : Int), hS.to [6, 5, 4, 3, 2, 1, 0] (by kernel_rfl) ⟨rfl, rfl, rfl, rfl, rfl, trivial⟩, Dw, hM⟩
  ·intro a w hI; obtain ⟨_, _, _, _, _, hM⟩ := hI; exact zc hM
  ·intro Dy a w hI D2 BM
   obtain ⟨Bq, B4, Bv, hS, BA, hM⟩ := hI
   rw [qN.l1] at hM
   refine qu <| sB hS rfl fun hS => qF <| wp_seq <| qC hS rfl hM (fun Dz hM => ?_) (fun Dz hM => ?_)
   ·refine wp_skip ?_
    refine qg <| wp_seq <| z7 <| qu <| sM hS rfl fun hS => sA hS rfl fun hS => qF <| z7 <| qu <| sM hS rfl fun hS => sB hS rfl fun hS => sM hS rfl fun hS => yr 2 false 18 (b := (decide (Bv < (144 : Int)))) (r := (decide (Bv ≥ (280 : Int)))) hS rfl rfl rfl rfl rfl rfl rfl (fun hb a w hS K hK => ?_) rfl fun a w hS => ?_
    ·refine zF hS rfl rfl rfl hb (mv rfl) rfl fun a w hS => ?_
     refine zF hS rfl rfl rfl hb (yN rfl rfl rfl) rfl fun a w hS => ?_
     exact q9 (hK _ _ (hS.up 2 rfl rfl))
    refine zr (v := Value.bool) (x0 := ((decide (Bv < (144 : Int))) || (decide (Bv ≥ (280 : Int))))) hS (z8 rfl) rfl fun D3 a w hz hS => ?_
    have hM := qA hz hM; clear hz
    refine qF <| qC hS rfl hM (fun DA hM => ?_) (fun DA hM => ?_)
    ·refine zv ?_
     refine sM hS rfl fun hS => sM hS rfl fun hS => ?_
     obtain ⟨B6, hM⟩ := qB hM
     refine sO hS (xd rfl rfl Tryd.runUnderlying45 Tryd.sizeOf3 (BA.rd (i := 6) rfl) (fun _ => rfl) rfl B6) rfl fun hS => Xf (i := Bv) (sz := 1) 6 0 ((8 : Int)) hS rfl rfl BA rfl Tryd.sizeOf3 (xb (8 : Int)) (fun _ => rfl) B6 rfl rfl fun BN w DQ hz B7 DB hS => ?_
     have hM := qA hz hM; clear hz
     replace hS := hS.re 2 (u := .slice Bn Bq.length Bo) (v := .slice Bn BN.length Bo) rfl (by rw [B7])
     replace hS := hS.re 22 (u := .slice Bn Bq.length Bo) (v := .slice Bn BN.length Bo) rfl (by rw [B7])
     refine q9 <| zk (zk (qg ?_))
     refine zv <| sB hS rfl fun hS => sM hS rfl fun hS => q9 <| qg ?_
     exact BM _ _ ⟨BN, DQ, (qk (Bv + (1 : Int))), hS.to [0, 1, 2, 3, 4, 5, 6] (by kernel_rfl) ⟨rfl, rfl, rfl, rfl, rfl, trivial⟩, DB, hM⟩
    ·refine wp_seq ?_
     refine zv <| sM hS rfl fun hS => sB hS rfl fun hS => zr (v := Value.bool) (x0 := (decide (Bv < (256 : Int)))) hS (z8 rfl) rfl fun D4 a w hz hS => ?_
     have hM := qA hz hM; clear hz
     refine qF <| qC hS rfl hM (fun DC hM => ?_) (fun DC hM => ?_)
     ·refine zv ?_
      refine sM hS rfl fun hS => sM hS rfl fun hS => ?_
      obtain ⟨B8, hM⟩ := qB hM
      refine sO hS (xd rfl rfl Tryd.runUnderlying45 Tryd.sizeOf3 (BA.rd (i := 6) rfl) (fun _ => rfl) rfl B8) rfl fun hS => Xf (i := Bv) (sz := 1) 6 0 ((9 : Int)) hS rfl rfl BA rfl Tryd.sizeOf3 (xb (9 : Int)) (fun _ => rfl) B8 rfl rfl fun BO w DR hz B9 DD hS => ?_
      have hM := qA hz hM; clear hz
      replace hS := hS.re 2 (u := .slice Bn Bq.length Bo) (v := .slice Bn BO.length Bo) rfl (by rw [B9])
      replace hS := hS.re 28 (u := .slice Bn Bq.length Bo) (v := .slice Bn BO.length Bo) rfl (by rw [B9])
      refine q9 <| zk (zk (qg ?_))
      refine zv <| sB hS rfl fun hS => sM hS rfl fun hS => q9 <| qg ?_
      exact BM _ _ ⟨BO, DR, (qk (Bv + (1 : Int))), hS.to [0, 1, 2, 3, 4, 5, 6] (by kernel_rfl) ⟨rfl, rfl, rfl, rfl, rfl, trivial⟩, DD, hM⟩
     ·refine zv ?_
      refine sM hS rfl fun hS => sM hS rfl fun hS => ?_
      obtain ⟨Da, hM⟩ := qB hM
      refine sO hS (xd rfl rfl Tryd.runUnderlying45 Tryd.sizeOf3 (BA.rd (i := 6) rfl) (fun _ => rfl) rfl Da) rfl fun hS => Xf (i := Bv) (sz := 1) 6 0 ((7 : Int)) hS rfl rfl BA rfl Tryd.sizeOf3 (xb (7 : Int)) (fun _ => rfl) Da rfl rfl fun BP w DS hz Db DE hS => ?_
      have hM := qA hz hM; clear hz
      replace hS := hS.re 2 (u := .slice Bn Bq.length Bo) (v := .slice Bn BP.length Bo) rfl (by rw [Db])
      replace hS := hS.re 12 (u := .slice Bn Bq.length Bo) (v := .slice Bn BP.length Bo) rfl (by rw [Db])
      refine q9 <| zk (zk (qg ?_))
      refine zv <| sB hS rfl fun hS => sM hS rfl fun hS => q9 <| qg ?_
      exact BM _ _ ⟨BP, DS, (qk (Bv + (1 : Int))), hS.to [0, 1, 2, 3, 4, 5, 6] (by kernel_rfl) ⟨rfl, rfl, rfl, rfl, rfl, trivial⟩, DE, hM⟩
   ·refine wp_exit ?_
    refine qx (qx (qV (qg ?_)))
    exact Dx _ _ ⟨Bq, B4, hS.to [0, 1, 2, 3, 4, 5, 6] (by kernel_rfl) ⟨rfl, rfl, rfl, trivial⟩, BA, hM⟩
 ·intro a w hI
  obtain ⟨Bp, BC, hS, BQ, hM⟩ := hI
  rw [qN.j2] at hM
  refine wp_seq <| zv ?_
  obtain ⟨DF, hM⟩ := qB hM
  refine VM (g := (ci .i64)) (m := (32 : Int)) (0 : Int) hS rfl rfl (by simp) Tryd.runUnderlying45 X.el3 (fun w => ⟨_, Tryd.zeroValue3 w, rfl⟩) (fun _ => rfl) rfl rfl DF rfl fun BR w Bw Bx DT hz DG hS => ?_
  have hM := qA hz hM; clear hz
  refine sA hS rfl fun hS => qF <| qX (fun a w => ∃ (BB : (List Int)) (BK : qs), Ss 46 [] [(0, q7 B0 0), (1, q7 B3 0), (2, .slice Bn Bp.length Bo), (4, .slice Bw BB.length Bx)] H [BE, BF, BG, BH, BI, BJ, BC, BK] F a w ∧ (zC 3 (ci .i64) 1 Bw BB Bx BK) ∧ (qN.j4 K Bp BB).wp kr kp) (fun D5 DH => ?_) ?_
  ·refine wp_seq ?_
   refine zv <| sM hS rfl fun hS => sO hS (xI rfl Tryd.runUnderlying45) rfl fun hS => sM hS rfl fun hS => qF <| z7 <| zd (fun DI a w => ∃ (BD : (List Int)) (B5 : qs) (BS : Int), Ss 46 [] [(0, q7 B0 0), (1, q7 B3 0), (2, .slice Bn Bp.length Bo), (4, .slice Bw BD.length Bx), (34, .int .i64 (BR.length : Int)), (35, .int .i64 BS)] H [BE, BF, BG, BH, BI, BJ, BC, B5] F a w ∧ (zC 3 (ci .i64) 1 Bw BD Bx B5) ∧ (qN.l3 K Bp BR DI BD BS).wp kr kp) K ?_ ?_ ?_
   ·exact ⟨BR, DT, (0 : Int), hS.to [1, 2, 3, 4, 5, 6, 7, 0] (by kernel_rfl) ⟨rfl, rfl, rfl, rfl, rfl, rfl, trivial⟩, DG, hM⟩
   ·intro a w hI; obtain ⟨_, _, _, _, _, hM⟩ := hI; exact zc hM
   ·intro DI a w hI D6 DJ
    obtain ⟨BD, B5, BS, hS, BT, hM⟩ := hI
    rw [qN.l3] at hM
    refine qu <| sB hS rfl fun hS => qF <| wp_seq <| qC hS rfl hM (fun DK hM => ?_) (fun DK hM => ?_)
    ·refine wp_skip ?_
     refine qg <| wp_seq <| z7 <| qu <| sM hS rfl fun hS => sA hS rfl fun hS => qF <| zv <| sM hS rfl fun hS => sM hS rfl fun hS => ?_
     obtain ⟨Dc, hM⟩ := qB hM
     refine sO hS (xd rfl rfl Tryd.runUnderlying45 Tryd.sizeOf3 (BT.rd (i := 7) rfl) (fun _ => rfl) rfl Dc) rfl fun hS => Xf (i := BS) (sz := 1) 7 0 ((5 : Int)) hS rfl rfl BT rfl Tryd.sizeOf3 (xb (5 : Int)) (fun _ => rfl) Dc rfl rfl fun BU w DU hz De DL hS => ?_
     have hM := qA hz hM; clear hz
     replace hS := hS.re 4 (u := .slice Bw BD.length Bx) (v := .slice Bw BU.length Bx) rfl (by rw [De])
     replace hS := hS.re 38 (u := .slice Bw BD.length Bx) (v := .slice Bw BU.length Bx) rfl (by rw [De])
     refine q9 <| zk (qg ?_)
     refine zv <| sB hS rfl fun hS => sM hS rfl fun hS => q9 <| qg ?_
     exact DJ _ _ ⟨BU, DU, (qk (BS + (1 : Int))), hS.to [0, 1, 2, 3, 4, 5, 6, 7] (by kernel_rfl) ⟨rfl, rfl, rfl, rfl, rfl, rfl, trivial⟩, DL, hM⟩
    ·refine wp_exit ?_
     refine qx (qx (qV (qg ?_)))
     exact DH _ _ ⟨BD, B5, hS.to [0, 1, 2, 3, 4, 5, 6, 7] (by kernel_rfl) ⟨rfl, rfl, rfl, rfl, trivial⟩, BT, hM⟩
  ·intro a w hI
   obtain ⟨BB, BK, hS, BV, hM⟩ := hI
   rw [qN.j4] at hM
   refine qu <| sM hS rfl fun hS => qO hS rfl Tryd.call37 (xU hG K Bp Bn Bo (BQ.rdF (i := 6) rfl) (BQ.cap (fun _ => rfl) rfl) (hS.st.part 0 [0, 1, 2, 3, 4, 5, 6, 7] (by kernel_rfl)) (qy hM) (fun BW BX Br Df w hM DV hst => qM hS.ev hst.appF rfl fun hS => ?_))
   replace hS : Ss _ _ _ H [Df, BE, BF, BG, BH, BI, BJ, BC, BK] F _ _ := hS
   refine sM hS rfl fun hS => qO hS rfl Tryd.call37 (xU hG K BB Bw Bx (BV.rdF (i := 8) rfl) (BV.cap (fun _ => rfl) rfl) (hS.st.part 0 [0, 1, 2, 3, 4, 5, 6, 7, 8] (by kernel_rfl)) (qy hM) (fun BY BZ Bs DM w hM DW hst => qM hS.ev hst.appF rfl fun hS => ?_))
   replace hS : Ss _ _ _ H [DM, Df, BE, BF, BG, BH, BI, BJ, BC, BK] F _ _ := hS
   refine uX 2 ([.slice Bn Bp.length Bo, .slice BW Br.length BX]) ([.slice Bn Bp.length Bo, .slice BW Br.length BX]) hS rfl rfl Dt rfl rfl Tryd.sizeOf47 (by simp [Value.oneCell']) (Nat.le_of_ble_eq_true rfl) rfl fun w D7 DN hS => uX 5 ([.slice Bw BB.length Bx, .slice BY Bs.length BZ]) ([.slice Bw BB.length Bx, .slice BY Bs.length BZ]) hS rfl rfl Du rfl rfl Tryd.sizeOf47 (by simp [Value.oneCell']) (Nat.le_of_ble_eq_true rfl) rfl fun w D8 DO hS => qF <| wp_ret ?_
   exact yF (vs := [.agg ⟨[.slice Bn Bp.length Bo, .slice BW Br.length BX]⟩, .agg ⟨[.slice Bw BB.length Bx, .slice BY Bs.length BZ]⟩]) hS rfl (by exact ⟨Ve 2 ([.slice Bn Bp.length Bo, .slice BW Br.length BX]) rfl DN rfl rfl rfl Tryd.isAgg47 Tryd.sizeOf47, Ve 5 ([.slice Bw BB.length Bx, .slice BY Bs.length BZ]) rfl DO rfl rfl rfl Tryd.isAgg47 Tryd.sizeOf47, trivial⟩) (hret Bn Bo Bp BC BW BX Br Df Bw Bx BB BK BY BZ Bs DM _ (zj hM) BQ DV BV DW (hS.st.pick [8, 1, 9, 0] (by kernel_rfl)))
theorem qU {H : xl} {F : List qs} {w : World} {R : Ending → World → Prop} {kr : (Int × Int × (List Int)) → Prop} {kp : Value → Prop} (hG : Gl H) (K : Nat) (Bo : qn) (BW : Int) (Bw : Int) (Br : Nat) (BX : qs) (BY : Option Addr) (BZ : Nat) (B0 : qs) (By : Option Addr) (Bz : Nat) (BL : qs) (BA : Option Addr) (BB : Nat) (BM : qs) (BC : Option Addr) (BD : Nat) (BN : qs) (BE : Option Addr) (BF : Nat) (BO : qs) (B4 : x6 BX Br ([.int .i64 Bo.Writer_.place_.at_, .slice BY Bo.Writer_.bytes_.length BZ, .slice By Bo.literals_.lengths_.length Bz, .slice BA Bo.literals_.codes_.length BB, .slice BC Bo.distances_.lengths_.length BD, .slice BE Bo.distances_.codes_.length BF]) 49) (B5 : zC 5 (ci .u8) 1 BY Bo.Writer_.bytes_ BZ B0) (DF : zC 3 (ci .i64) 1 By Bo.literals_.lengths_ Bz BL) (DG : zC 3 (ci .i64) 1 BA Bo.literals_.codes_ BB BM) (DH : zC 3 (ci .i64) 1 BC Bo.distances_.lengths_ BD BN) (DI : zC 3 (ci .i64) 1 BE Bo.distances_.codes_ BF BO)
    (hS : St w H [BX, B0, BL, BM, BN, BO] F) (hm : (qm.m K Bo BW Bw).wp kr kp)
    (hret : ∀ (Dc : Int) (BP : Int) (De : Option Addr) (Df : Nat) (Bx : (List Int)) (Dg : qs) (Dh : qs) (w : World), kr (Dc, BP, Bx) → (zC 5 (ci .u8) 1 De Bx Df Dg) → (x6 Dh Br ([.int .i64 BP, .slice De Bx.length Df, .slice By Bo.literals_.lengths_.length Bz, .slice BA Bo.literals_.codes_.length BB, .slice BC Bo.distances_.lengths_.length BD, .slice BE Bo.distances_.codes_.length BF]) 49) → St w H [Dh, Dg, BL, BM, BN, BO] F → R (.returned (.int .i64 Dc)) w) :
    Calls Tryd.prog 23 ⟨[q7 Br 0, .int .u32 BW, .int .i64 Bw]⟩ w R := by
 refine enter Tryd.func23 rfl Tryd.ntmps23 rfl hS fun a w hS => ?_
 have hM := hm; clear hm
 rw [qm.m] at hM
 refine qu <| sA hS rfl fun hS => qF <| wp_seq <| qu <| sM hS rfl fun hS => sO hS (V5 rfl rfl Tryd.runUnderlying103) rfl fun hS => sM hS rfl fun hS => zF hS rfl rfl rfl rfl (mv rfl) rfl fun a w hS => zF hS rfl rfl rfl rfl (yN rfl rfl rfl) rfl fun a w hS => sO hS (pk rfl rfl rfl) rfl fun hS => sM hS rfl fun hS => yr 2 false 14 (b := (decide (Bw < (0 : Int)))) (r := (decide (Bw > (32 : Int)))) hS rfl rfl rfl rfl rfl rfl rfl (fun hb a w hS K hK => ?_) rfl fun a w hS => ?_
 ·refine zF hS rfl rfl rfl hb (mv rfl) rfl fun a w hS => ?_
  refine zF hS rfl rfl rfl hb (yN rfl rfl rfl) rfl fun a w hS => ?_
  exact q9 (hK _ _ (hS.up 2 rfl rfl))
 refine sM hS rfl fun hS => ?_
 obtain ⟨Di, hM⟩ := qB hM
 refine yr 5 false 18 (b := ((decide (Bw < (0 : Int))) || (decide (Bw > (32 : Int))))) (r := (decide ((zR .u64 (wr .u64 BW) Bw) > (0 : Int)))) hS rfl rfl rfl rfl rfl rfl rfl (fun hb a w hS K hK => ?_) rfl fun a w hS => ?_
 ·refine zF hS rfl rfl rfl hb (mv rfl) rfl fun a w hS => ?_
  refine zF hS rfl rfl rfl hb (vX rfl Tryd.runUnderlying53 Tryd.runUnderlying104) rfl fun a w hS => zF hS rfl rfl rfl hb (mv rfl) rfl fun a w hS => ?_
  have Dj := Un Di hb
  refine zF hS rfl rfl rfl hb (shr rfl rfl Dj) rfl fun a w hS => zF hS rfl rfl rfl hb (yN rfl rfl rfl) rfl fun a w hS => ?_
  exact q9 (hK _ _ (hS.up 5 rfl rfl))
 refine qF <| qC hS rfl hM (fun Dk hM => ?_) (fun Dk hM => ?_)
 ·refine wp_seq ?_
  refine zv <| sA hS rfl fun hS => qF <| wp_ret <| zz ?_
  exact zJ (rs := [6]) hS rfl rfl (hret (1 : Int) Bo.Writer_.place_.at_ BY BZ Bo.Writer_.bytes_ B0 BX _ (zj hM) B5 B4 (hS.st.pick [0, 1, 2, 3, 4, 5] (by kernel_rfl)))
 ·refine wp_skip ?_
  refine qg <| wp_seq <| z7 <| zd (fun Da a w => ∃ (Bn : Int) (BQ : Option Addr) (BR : Nat) (Bs : (List Int)) (BS : qs) (BT : qs) (Bt : Int) (Bu : Int), Ss 95 [] [(0, q7 Br 0), (1, .int .u32 Bt), (2, .int .i64 Bu)] H [BT, BS, BL, BM, BN, BO] F a w ∧ (zC 5 (ci .u8) 1 BQ Bs BR BS) ∧ (x6 BT Br ([.int .i64 Bn, .slice BQ Bs.length BR, .slice By Bo.literals_.lengths_.length Bz, .slice BA Bo.literals_.codes_.length BB, .slice BC Bo.distances_.lengths_.length BD, .slice BE Bo.distances_.codes_.length BF]) 49) ∧ (qm.l1 K Da Bn Bs Bt Bu).wp kr kp) K ?_ ?_ ?_
  ·exact ⟨Bo.Writer_.place_.at_, BY, BZ, Bo.Writer_.bytes_, B0, BX, BW, Bw, hS.to [0, 1, 2, 3, 4, 5] (by kernel_rfl) ⟨rfl, rfl, rfl, trivial⟩, B5, B4, hM⟩
  ·intro a w hI; obtain ⟨_, _, _, _, _, _, _, _, _, _, _, hM⟩ := hI; exact zc hM
  ·intro Da a w hI DJ Dl
   obtain ⟨Bn, BQ, BR, Bs, BS, BT, Bt, Bu, hS, BU, BG, hM⟩ := hI
   rw [qm.l1] at hM
   refine wp_seq <| qu <| sM hS rfl fun hS => sB hS rfl fun hS => qF <| qC hS rfl hM (fun Dm hM => ?_) (fun Dm hM => ?_)
   ·refine wp_skip ?_
    refine qg <| z7 <| qX (fun a w => ∃ (Bv : Option Addr) (BH : Nat) (Bq : (List Int)) (Db : qs) (B3 : qs), Ss 95 [] [(0, q7 Br 0), (1, .int .u32 Bt), (2, .int .i64 Bu)] H [B3, Db, BL, BM, BN, BO] F a w ∧ (zC 5 (ci .u8) 1 Bv Bq BH Db) ∧ (x6 B3 Br ([.int .i64 Bn, .slice Bv Bq.length BH, .slice By Bo.literals_.lengths_.length Bz, .slice BA Bo.literals_.codes_.length BB, .slice BC Bo.distances_.lengths_.length BD, .slice BE Bo.distances_.codes_.length BF]) 49) ∧ (qm.j2 K (qm.l1 K Da) Bn Bt Bu Bq).wp kr kp) (fun DK B6 => ?_) ?_
    ·refine wp_seq ?_
     refine zv <| sM hS rfl fun hS => sO hS (yV rfl) rfl fun hS => sO hS (xn rfl Tryd.runUnderlying44 rfl Tryd.sizeOf42 rfl) rfl fun hS => sO hS (xn rfl Tryd.runUnderlying42 rfl Tryd.sizeOf3 rfl) rfl fun hS => sO hS (x5 0 rfl BG rfl rfl Tryd.isAgg3) rfl fun hS => sB hS rfl fun hS => sB hS rfl fun hS => qF <| qC hS rfl hM (fun Dn hM => ?_) (fun Dn hM => ?_)
     ·refine zv ?_
      refine sM hS rfl fun hS => sM hS rfl fun hS => sO hS (yV rfl) rfl fun hS => sO hS (xn rfl Tryd.runUnderlying44 rfl Tryd.sizeOf38 rfl) rfl fun hS => sO hS (x5 0 rfl BG rfl rfl Tryd.isAgg38) rfl fun hS => XE (g := (ci .u8)) ([(0 : Int)] : List Int) [.int .u8 (0 : Int)] hS Tryd.runUnderlying38 Tryd.sizeOf5 X.el5 rfl rfl rfl (by simp [Value.cells]) rfl rfl rfl rfl rfl fun w DL DM DN Do hS => ?_
      obtain ⟨Dp, hM⟩ := qB hM
      refine Yp (ys := ([(0 : Int)] : List Int)) 2 hS rfl rfl BU rfl (Do.rd (i := 0) rfl) Tryd.runUnderlying38 Tryd.runUnderlying38 X.el5 (fun _ => rfl) rfl u9 Dp rfl fun B7 w Dq Dr DA hz Dt hS => ?_
      have hM := qA hz hM; clear hz
      refine sO hS (yV rfl) rfl fun hS => sO hS (xn rfl Tryd.runUnderlying44 rfl Tryd.sizeOf38 rfl) rfl fun hS => Ks 1 ([.int .i64 Bn, .slice Dq B7.length Dr, .slice By Bo.literals_.lengths_.length Bz, .slice BA Bo.literals_.codes_.length BB, .slice BC Bo.distances_.lengths_.length BD, .slice BE Bo.distances_.codes_.length BF]) hS rfl rfl BG rfl rfl rfl rfl Tryd.sizeOf38 fun w DB Du hS => q9 <| qg ?_
      exact B6 _ _ ⟨Dq, Dr, B7, DA, DB, hS.to [1, 2, 3, 4, 5, 6] (by kernel_rfl) ⟨rfl, rfl, rfl, trivial⟩, Dt, Du, hM⟩
     ·refine wp_skip ?_
      refine qg ?_
      exact B6 _ _ ⟨BQ, BR, Bs, BS, BT, hS.to [0, 1, 2, 3, 4, 5] (by kernel_rfl) ⟨rfl, rfl, rfl, trivial⟩, BU, BG, hM⟩
    ·intro a w hI
     obtain ⟨Bv, BH, Bq, Db, B3, hS, BJ, BI, hM⟩ := hI
     rw [qm.j2] at hM
     refine qu <| sM hS rfl fun hS => sO hS (yV rfl) rfl fun hS => sO hS (xn rfl Tryd.runUnderlying44 rfl Tryd.sizeOf42 rfl) rfl fun hS => sO hS (xn rfl Tryd.runUnderlying42 rfl Tryd.sizeOf3 rfl) rfl fun hS => sO hS (x5 0 rfl BI rfl rfl Tryd.isAgg3) rfl fun hS => sB hS rfl fun hS => sB hS rfl fun hS => sM hS rfl fun hS => sO hS (YY rfl rfl) rfl fun hS => zr (v := Value.int .i64) (x0 := (if Bu < (qk ((8 : Int) - (xh .i64 Bn (7 : Int)))) then Bu else (qk ((8 : Int) - (xh .i64 Bn (7 : Int)))))) hS (z8 rfl) rfl fun Bp a w hz hS => ?_
     have hM := qA hz hM; clear hz
     refine qF <| wp_seq ?_
     obtain ⟨BK, hM⟩ := qB hM
     obtain ⟨B8, hM⟩ := qB hM
     obtain ⟨Dv, hM⟩ := qB hM
     refine q8 (vals := [some (q7 Br 0), some (q7 Br 0), some (q7 Br 1), some (.slice Bv Bq.length BH), some (q7 Br 0), some (q7 Br 0), some (q7 Br 0), some (q7 Br 0), some (.int .i64 Bn), some (.int .i64 (jj .i64 Bn (8 : Int))), some (zA Bv (Int.toNat (jj .i64 Bn (8 : Int)) * 1)), some (.int .u8 (rd Bq (jj .i64 Bn (8 : Int)))), some (.int .u32 Bt), some (.int .i64 Bp), some (.int .u32 (zV .u32 (1 : Int) Bp)), some (.int .u32 (wr .u32 ((zV .u32 (1 : Int) Bp) - (1 : Int)))), some (.int .u32 (xh .u32 Bt (wr .u32 ((zV .u32 (1 : Int) Bp) - (1 : Int))))), some (.int .u8 (wr .u8 (xh .u32 Bt (wr .u32 ((zV .u32 (1 : Int) Bp) - (1 : Int)))))), some (q7 Br 0), some (q7 Br 0), some (q7 Br 0), some (q7 Br 0), some (.int .i64 Bn), some (.int .i64 (xh .i64 Bn (7 : Int))), some (.int .u8 (zV .u8 (wr .u8 (xh .u32 Bt (wr .u32 ((zV .u32 (1 : Int) Bp) - (1 : Int))))) (xh .i64 Bn (7 : Int)))), some (.int .u8 (VR .u8 (rd Bq (jj .i64 Bn (8 : Int))) (zV .u8 (wr .u8 (xh .u32 Bt (wr .u32 ((zV .u32 (1 : Int) Bp) - (1 : Int))))) (xh .i64 Bn (7 : Int))))), some (zA Bv (Int.toNat (jj .i64 Bn (8 : Int)) * 1)), none]) hS z6 rfl ?_
     intro l w ho hcl hA hst
     refine yx hA hst ho hcl zX z5 27 [0, 1, 2, 3, 4, 5, 6, 7, 8, 9, 10, 11, 12, 13, 14, 15, 16, 17, 18, 19, 20, 21, 22, 23, 24, 25, 26] rfl rfl rfl rfl rfl (by exact ⟨nM rfl, nQ rfl (by exact qR (yV rfl) rfl), nQ rfl (by exact qR (xn rfl Tryd.runUnderlying44 rfl Tryd.sizeOf38 rfl) rfl), nQ rfl (by exact qR (x5 0 rfl BI rfl rfl Tryd.isAgg38) rfl), nM rfl, nQ rfl (by exact qR (yV rfl) rfl), nQ rfl (by exact qR (xn rfl Tryd.runUnderlying44 rfl Tryd.sizeOf42 rfl) rfl), nQ rfl (by exact qR (xn rfl Tryd.runUnderlying42 rfl Tryd.sizeOf3 rfl) rfl), nQ rfl (by exact qR (x5 0 rfl BI rfl rfl Tryd.isAgg3) rfl), nQ rfl (by exact qR (quo rfl rfl rfl) rfl), nQ rfl (by exact qR (xd rfl rfl Tryd.runUnderlying38 Tryd.sizeOf5 (BJ.rd (i := 1) rfl) (fun _ => rfl) rfl BK) rfl), nQ rfl (by exact qR (x3 rfl (BJ.rd (i := 1) rfl) (fun _ => rfl) BK rfl Tryd.isAgg5) rfl), nM rfl, nM rfl, nQ rfl (by exact qR (shl rfl rfl B8) rfl), nB rfl, nB rfl, nQ rfl (by exact qR (vX rfl Tryd.runUnderlying53 Tryd.runUnderlying5) rfl), nM rfl, nQ rfl (by exact qR (yV rfl) rfl), nQ rfl (by exact qR (xn rfl Tryd.runUnderlying44 rfl Tryd.sizeOf42 rfl) rfl), nQ rfl (by exact qR (xn rfl Tryd.runUnderlying42 rfl Tryd.sizeOf3 rfl) rfl), nQ rfl (by exact qR (x5 0 rfl BI rfl rfl Tryd.isAgg3) rfl), nB rfl, nQ rfl (by exact qR (shl rfl rfl Dv) rfl), nB rfl, nQ rfl (by exact qR (xd rfl rfl Tryd.runUnderlying38 Tryd.sizeOf5 (BJ.rd (i := 1) rfl) (fun _ => rfl) rfl BK) rfl), trivial⟩) fun D l a w ho hcl hav hpre hm hE hk hA hst => ?_
     have hS := (Ss.mk hE hst).env2 (e' := [(77, .int .u8 (VR .u8 (rd Bq (jj .i64 Bn (8 : Int))) (zV .u8 (wr .u8 (xh .u32 Bt (wr .u32 ((zV .u32 (1 : Int) Bp) - (1 : Int))))) (xh .i64 Bn (7 : Int))))), (78, zA Bv (Int.toNat (jj .i64 Bn (8 : Int)) * 1))]) ⟨rfl, rfl, trivial⟩
     refine qP rfl <| Xf (i := (jj .i64 Bn (8 : Int))) (sz := 1) 1 0 ((VR .u8 (rd Bq (jj .i64 Bn (8 : Int))) (zV .u8 (wr .u8 (xh .u32 Bt (wr .u32 ((zV .u32 (1 : Int) Bp) - (1 : Int))))) (xh .i64 Bn (7 : Int))))) hS rfl rfl BJ rfl Tryd.sizeOf5 (u9 (VR .u8 (rd Bq (jj .i64 Bn (8 : Int))) (zV .u8 (wr .u8 (xh .u32 Bt (wr .u32 ((zV .u32 (1 : Int) Bp) - (1 : Int))))) (xh .i64 Bn (7 : Int))))) (fun _ => rfl) BK rfl rfl fun BV w DC hz Dw Dx hS => ?_
     have hM := qA hz hM; clear hz
     have B9 : x6 B3 Br ([.int .i64 Bn, .slice Bv BV.length BH, .slice By Bo.literals_.lengths_.length Bz, .slice BA Bo.literals_.codes_.length BB, .slice BC Bo.distances_.lengths_.length BD, .slice BE Bo.distances_.codes_.length BF]) 49 := by rw [Dw]; exact BI
     refine qF ?_
     replace hst := hS.st
     obtain ⟨hcl, hmust, hav2, hA⟩ := QI (vals' := [some (q7 Br 0), some (q7 Br 0), some (q7 Br 1), some (.slice Bv Bq.length BH), some (q7 Br 0), some (q7 Br 0), some (q7 Br 0), some (q7 Br 0), some (.int .i64 Bn), some (.int .i64 (jj .i64 Bn (8 : Int))), some (zA Bv (Int.toNat (jj .i64 Bn (8 : Int)) * 1)), some (.int .u8 (rd Bq (jj .i64 Bn (8 : Int)))), some (.int .u32 Bt), some (.int .i64 Bp), some (.int .u32 (zV .u32 (1 : Int) Bp)), some (.int .u32 (wr .u32 ((zV .u32 (1 : Int) Bp) - (1 : Int)))), some (.int .u32 (xh .u32 Bt (wr .u32 ((zV .u32 (1 : Int) Bp) - (1 : Int))))), some (.int .u8 (wr .u8 (xh .u32 Bt (wr .u32 ((zV .u32 (1 : Int) Bp) - (1 : Int)))))), some (q7 Br 0), some (q7 Br 0), some (q7 Br 0), some (q7 Br 0), some (.int .i64 Bn), some (.int .i64 (xh .i64 Bn (7 : Int))), some (.int .u8 (zV .u8 (wr .u8 (xh .u32 Bt (wr .u32 ((zV .u32 (1 : Int) Bp) - (1 : Int))))) (xh .i64 Bn (7 : Int)))), some (.int .u8 (VR .u8 (rd Bq (jj .i64 Bn (8 : Int))) (zV .u8 (wr .u8 (xh .u32 Bt (wr .u32 ((zV .u32 (1 : Int) Bp) - (1 : Int))))) (xh .i64 Bn (7 : Int))))), some (zA Bv (Int.toNat (jj .i64 Bn (8 : Int)) * 1)), some undef]) 27 [(0, 27), (1, 27), (2, 27), (3, 27), (4, 27), (5, 27), (6, 27), (7, 27), (8, 27), (9, 27), (10, 27), (11, 27), (12, 27), (13, 27), (14, 27), (15, 27), (16, 27), (17, 27), (18, 27), (19, 27), (20, 27), (21, 27), (22, 27), (23, 27), (24, 27), (25, 27), (26, 27)] hA hcl hav hm hpre rfl rfl rfl rfl rfl
     clear hm hav
     refine xG hA hst ho hcl hmust [] rfl rfl rfl trivial fun a w hS => ?_
     replace hS := hS.env2 (e' := [(0, q7 Br 0), (1, .int .u32 Bt), (2, .int .i64 Bu), (7, .int .i64 Bp)]) ⟨rfl, rfl, rfl, rfl, trivial⟩
     refine qg <| qu <| sM hS rfl fun hS => sM hS rfl fun hS => sO hS (shr rfl rfl B8) rfl fun hS => zr (v := Value.int .u32) (x0 := (zR .u32 Bt Bp)) hS (z8 rfl) rfl fun DD a w hz hS => ?_
     have hM := qA hz hM; clear hz
     refine qF <| qu <| sM hS rfl fun hS => sO hS (yV rfl) rfl fun hS => sO hS (xn rfl Tryd.runUnderlying44 rfl Tryd.sizeOf42 rfl) rfl fun hS => sO hS (xn rfl Tryd.runUnderlying42 rfl Tryd.sizeOf3 rfl) rfl fun hS => sO hS (x5 0 rfl B9 rfl rfl Tryd.isAgg3) rfl fun hS => sM hS rfl fun hS => sB hS rfl fun hS => sO hS (yV rfl) rfl fun hS => sO hS (xn rfl Tryd.runUnderlying44 rfl Tryd.sizeOf42 rfl) rfl fun hS => sO hS (xn rfl Tryd.runUnderlying42 rfl Tryd.sizeOf3 rfl) rfl fun hS => Ks 0 ([.int .i64 (qk (Bn + Bp)), .slice Bv BV.length BH, .slice By Bo.literals_.lengths_.length Bz, .slice BA Bo.literals_.codes_.length BB, .slice BC Bo.distances_.lengths_.length BD, .slice BE Bo.distances_.codes_.length BF]) hS rfl rfl B9 rfl rfl rfl rfl Tryd.sizeOf3 fun w DE Dy hS => qF <| zv <| sM hS rfl fun hS => sM hS rfl fun hS => sB hS rfl fun hS => zr (v := Value.int .i64) (x0 := (qk (Bu - Bp))) hS (z8 rfl) rfl fun Dz a w hz hS => ?_
     have hM := qA hz hM; clear hz
     refine q9 <| zk (qg ?_)
     exact Dl _ _ ⟨(qk (Bn + Bp)), Bv, BH, BV, DC, DE, DD, Dz, hS.to [0, 1, 2, 3, 4, 5] (by kernel_rfl) ⟨rfl, rfl, rfl, trivial⟩, Dx, Dy, hM⟩
   ·refine wp_exit ?_
    refine qx (qx (qV (qg ?_)))
    refine qu <| sA hS rfl fun hS => qF <| wp_ret ?_
    exact zJ (rs := [6]) hS rfl rfl (hret (0 : Int) Bn BQ BR Bs BS BT _ (zj hM) BU BG (hS.st.pick [0, 1, 2, 3, 4, 5] (by kernel_rfl)))
theorem xt {H : xl} {F : List qs} {w : World} {R : Ending → World → Prop} {kr : (Int × (List Int)) → Prop} {kp : Value → Prop} (hG : Gl H) (K : Nat) (Bn : qn) (BZ : qq) (Bo : Int) (Br : Nat) (BU : qs) (BV : Option Addr) (BW : Nat) (BX : qs) (Bw : Option Addr) (Bx : Nat) (By : qs) (Bs : Option Addr) (Bv : Nat) (Bz : qs) (BC : Option Addr) (BD : Nat) (BA : qs) (BE : Option Addr) (BF : Nat) (BB : qs) (B0 : x6 BU Br ([.int .i64 Bn.Writer_.place_.at_, .slice BV Bn.Writer_.bytes_.length BW, .slice Bw Bn.literals_.lengths_.length Bx, .slice Bs Bn.literals_.codes_.length Bv, .slice BC Bn.distances_.lengths_.length BD, .slice BE Bn.distances_.codes_.length BF]) 49) (B3 : zC 5 (ci .u8) 1 BV Bn.Writer_.bytes_ BW BX) (BG : zC 3 (ci .i64) 1 Bw Bn.literals_.lengths_ Bx By) (BH : zC 3 (ci .i64) 1 Bs Bn.literals_.codes_ Bv Bz) (B4 : zC 3 (ci .i64) 1 BC Bn.distances_.lengths_ BD BA) (B5 : zC 3 (ci .i64) 1 BE Bn.distances_.codes_ BF BB)
    (hS : St w H [BU, BX, By, Bz, BA, BB] F) (hm : (zh.m K Bn BZ Bo).wp kr kp)
    (hret : ∀ (BI : Int) (B6 : Option Addr) (B7 : Nat) (Bt : (List Int)) (B8 : qs) (B9 : qs) (w : World), kr (BI, Bt) → (zC 5 (ci .u8) 1 B6 Bt B7 B8) → (x6 B9 Br ([.int .i64 BI, .slice B6 Bt.length B7, .slice Bw Bn.literals_.lengths_.length Bx, .slice Bs Bn.literals_.codes_.length Bv, .slice BC Bn.distances_.lengths_.length BD, .slice BE Bn.distances_.codes_.length BF]) 49) → St w H [B9, B8, By, Bz, BA, BB] F → R (.returned (.tuple ⟨[]⟩)) w) :
    Calls Tryd.prog 41 ⟨[q7 Br 0, .agg ⟨[.slice Bw Bn.literals_.lengths_.length Bx, .slice Bs Bn.literals_.codes_.length Bv]⟩, .int .i64 Bo]⟩ w R := by
 refine enter Tryd.func41 rfl Tryd.ntmps41 rfl hS fun a w hS => ?_
 have hM := hm; clear hm
 rw [zh.m] at hM
 refine qu <| bx ([.slice Bw Bn.literals_.lengths_.length Bx, .slice Bs Bn.literals_.codes_.length Bv]) hS rfl rfl rfl fun w BO Da BP hS => qF <| qu <| sO hS (xn rfl Tryd.runUnderlying47 rfl Tryd.sizeOf45 rfl) rfl fun hS => sO hS (x5 0 rfl BP rfl rfl Tryd.isAgg45) rfl fun hS => sM hS rfl fun hS => ?_
 obtain ⟨BQ, hM⟩ := qB hM
 refine sO hS (xd rfl rfl Tryd.runUnderlying45 Tryd.sizeOf3 (BG.rd (i := 3) rfl) (fun _ => rfl) rfl BQ) rfl fun hS => sO hS (x3 rfl (BG.rd (i := 3) rfl) (fun _ => rfl) BQ rfl Tryd.isAgg3) rfl fun hS => sB hS rfl fun hS => zr (v := Value.int .i64) (x0 := (qk ((rd Bn.literals_.lengths_ Bo) - (1 : Int)))) hS (z8 rfl) rfl fun Di a w hz hS => ?_
 have hM := qA hz hM; clear hz
 refine qF <| z7 <| zd (fun Db a w => ∃ (Bu : Int) (BJ : Option Addr) (BK : Nat) (Bp : (List Int)) (BL : qs) (BM : qs) (Bq : Int), Ss 30 [] [(0, q7 Br 0), (2, .int .i64 Bo), (4, q7 BO 0), (6, .int .i64 Bq)] H [BM, BL, By, Bz, BA, BB, Da] F a w ∧ (zC 5 (ci .u8) 1 BJ Bp BK BL) ∧ (x6 BM Br ([.int .i64 Bu, .slice BJ Bp.length BK, .slice Bw Bn.literals_.lengths_.length Bx, .slice Bs Bn.literals_.codes_.length Bv, .slice BC Bn.distances_.lengths_.length BD, .slice BE Bn.distances_.codes_.length BF]) 49) ∧ (zh.l1 K Bn Bo Db Bu Bp Bq).wp kr kp) K ?_ ?_ ?_
 ·exact ⟨Bn.Writer_.place_.at_, BV, BW, Bn.Writer_.bytes_, BX, BU, Di, hS.to [1, 2, 3, 4, 5, 6, 0] (by kernel_rfl) ⟨rfl, rfl, rfl, rfl, trivial⟩, B3, B0, hM⟩
 ·intro a w hI; obtain ⟨_, _, _, _, _, _, _, _, _, _, hM⟩ := hI; exact zc hM
 ·intro Db a w hI Dp Dc
  obtain ⟨Bu, BJ, BK, Bp, BL, BM, Bq, hS, BR, BS, hM⟩ := hI
  rw [zh.l1] at hM
  refine wp_seq <| qu <| sM hS rfl fun hS => sB hS rfl fun hS => qF <| qC hS rfl hM (fun De hM => ?_) (fun De hM => ?_)
  ·refine wp_skip ?_
   refine qg <| wp_seq <| z7 ?_
   obtain ⟨BT, hM⟩ := qB hM
   obtain ⟨Df, hM⟩ := qB hM
   refine q8 (vals := [some (q7 Br 0), some (q7 Br 0), some (q7 Br 0), some (q7 BO 1), some (.slice Bs Bn.literals_.codes_.length Bv), some (.int .i64 Bo), some (zA Bs (Int.toNat Bo * 1)), some (.int .i64 (rd Bn.literals_.codes_ Bo)), some (.int .i64 Bq), some (.int .i64 (zR .i64 (rd Bn.literals_.codes_ Bo) Bq)), some (.int .i64 (xh .i64 (zR .i64 (rd Bn.literals_.codes_ Bo) Bq) (1 : Int))), some (.int .u32 (wr .u32 (xh .i64 (zR .i64 (rd Bn.literals_.codes_ Bo) Bq) (1 : Int)))), none]) hS z6 rfl ?_
   intro l w ho hcl hA hst
   refine yx hA hst ho hcl zX z5 12 [0, 1, 2, 3, 4, 5, 6, 7, 8, 9, 10, 11] rfl rfl rfl rfl rfl (by exact ⟨nM rfl, nQ rfl (by exact qR (yV rfl) rfl), nQ rfl (by exact qR (xn rfl Tryd.runUnderlying49 rfl Tryd.sizeOf44 rfl) rfl), nQ rfl (by exact qR (xn rfl Tryd.runUnderlying47 rfl Tryd.sizeOf45 rfl) rfl), nQ rfl (by exact qR (x5 6 rfl BP rfl rfl Tryd.isAgg45) rfl), nM rfl, nQ rfl (by exact qR (xd rfl rfl Tryd.runUnderlying45 Tryd.sizeOf3 (BH.rd (i := 3) rfl) (fun _ => rfl) rfl BT) rfl), nQ rfl (by exact qR (x3 rfl (BH.rd (i := 3) rfl) (fun _ => rfl) BT rfl Tryd.isAgg3) rfl), nM rfl, nQ rfl (by exact qR (shr rfl rfl Df) rfl), nB rfl, nQ rfl (by exact qR (vX rfl Tryd.runUnderlying3 Tryd.runUnderlying53) rfl), trivial⟩) fun D l a w ho hcl hav hpre hm hE hk hA hst => ?_
   have hS := (Ss.mk hE hst).env2 (e' := [(19, q7 Br 0), (28, .int .u32 (wr .u32 (xh .i64 (zR .i64 (rd Bn.literals_.codes_ Bo) Bq) (1 : Int))))]) ⟨rfl, rfl, trivial⟩
   refine qP rfl <| qO hS rfl Tryd.call23 (qU hG K (qn.mk (qG.mk (qJ.mk Bu) Bp) Bn.literals_ Bn.distances_) (wr .u32 (xh .i64 (zR .i64 (rd Bn.literals_.codes_ Bo) Bq) (1 : Int))) (1 : Int) Br BM BJ BK BL Bw Bx By Bs Bv Bz BC BD BA BE BF BB BS BR BG BH B4 B5 (hS.st.part 6 [0, 1, 2, 3, 4, 5, 6] (by kernel_rfl)) (qy hM) (fun Dj BY Dk Dl BN Dg Dh w hM Dm Dn hst => qM hS.ev hst.appF rfl fun hS => ?_))
   replace hS : Ss _ _ _ H [Dh, Dg, By, Bz, BA, BB, Da] F _ _ := hS
   refine qF ?_
   replace hst := hS.st
   obtain ⟨hcl, hmust, hav2, hA⟩ := dn (vals' := [some (q7 Br 0), some (q7 Br 0), some (q7 Br 0), some (q7 BO 1), some (.slice Bs Bn.literals_.codes_.length Bv), some (.int .i64 Bo), some (zA Bs (Int.toNat Bo * 1)), some (.int .i64 (rd Bn.literals_.codes_ Bo)), some (.int .i64 Bq), some (.int .i64 (zR .i64 (rd Bn.literals_.codes_ Bo) Bq)), some (.int .i64 (xh .i64 (zR .i64 (rd Bn.literals_.codes_ Bo) Bq) (1 : Int))), some (.int .u32 (wr .u32 (xh .i64 (zR .i64 (rd Bn.literals_.codes_ Bo) Bq) (1 : Int)))), some (.int .i64 Dj)]) 12 [(2, 12), (11, 12), (1, 2), (10, 11), (0, 1), (9, 10), (7, 9), (8, 9), (6, 7), (4, 6), (5, 6), (3, 4)] hA hcl hav hm hpre hk rfl rfl rfl rfl rfl rfl rfl
   clear hm hav
   refine xG hA hst ho hcl hmust [] rfl rfl rfl trivial fun a w hS => ?_
   replace hS := hS.env2 (e' := [(0, q7 Br 0), (2, .int .i64 Bo), (4, q7 BO 0), (6, .int .i64 Bq)]) ⟨rfl, rfl, rfl, rfl, trivial⟩
   refine zk (qg ?_)
   refine zv <| sM hS rfl fun hS => sB hS rfl fun hS => zr (v := Value.int .i64) (x0 := (qk (Bq - (1 : Int)))) hS (z8 rfl) rfl fun Do a w hz hS => ?_
   have hM := qA hz hM; clear hz
   refine q9 <| qg ?_
   exact Dc _ _ ⟨BY, Dk, Dl, BN, Dg, Dh, Do, hS.to [0, 1, 2, 3, 4, 5, 6] (by kernel_rfl) ⟨rfl, rfl, rfl, rfl, trivial⟩, Dm, Dn, hM⟩
  ·refine wp_exit ?_
   refine qx (qx (qV ?_))
   exact yj (rs := []) hS rfl rfl (hret Bu BJ BK Bp BL BM _ (zj hM) BR BS (hS.st.pick [0, 1, 2, 3, 4, 5] (by kernel_rfl)))
theorem jC {H : xl} {F : List qs} {w : World} {R : Ending → World → Prop} {kr : (Int × Int × Int) → Prop} {kp : Value → Prop} (hG : Gl H) (K : Nat) (Bq : Int) (Bp : Int)
    (hS : St w H [] F) (hm : (zy.m K Bq Bp).wp kr kp)
    (hret : ∀ (Bs : Int) (Bu : Int) (Bv : Int) (w : World), kr (Bs, Bu, Bv) → St w H [] F → R (.returned (.agg ⟨[.int .i64 Bs, .int .i64 Bu, .int .u32 Bv]⟩)) w) :
    Calls Tryd.prog 52 ⟨[.int .i64 Bq, .int .i64 Bp]⟩ w R := by
 refine enter Tryd.func52 rfl Tryd.ntmps52 rfl hS fun a w hS => ?_
 have hM := hm; clear hm
 rw [zy.m] at hM
 refine qu <| uS ([.int .i64 (0 : Int), .int .i64 (0 : Int), .int .u32 (0 : Int)]) hS Tryd.zeroValue68 rfl rfl fun w Bw By Bz hS => qF <| qu <| sM hS rfl fun hS => sA hS rfl fun hS => sA hS rfl fun hS => qF <| qX (fun a w => ∃ (Bn : Int) (Bo : Int), Ss 29 [] [(0, .int .i64 Bq), (1, .int .i64 Bp), (4, q7 Bw 0), (5, .int .i64 Bn), (6, .int .i64 Bo)] H [By] F a w ∧ (zy.j2 K Bq Bp Bn Bo).wp kr kp) (fun BJ BA => ?_) ?_
 ·refine z7 ?_
  refine zd (fun BB a w => ∃ (Bt : Int) (Br : Int), Ss 29 [] [(0, .int .i64 Bq), (1, .int .i64 Bp), (4, q7 Bw 0), (5, .int .i64 Bt), (6, .int .i64 Br)] H [By] F a w ∧ (zy.l1 K Bq Bp BB Bt Br).wp kr kp) K ?_ ?_ ?_
  ·exact ⟨(0 : Int), Bq, hS.to [0] (by kernel_rfl) ⟨rfl, rfl, rfl, rfl, rfl, trivial⟩, hM⟩
  ·intro a w hI; obtain ⟨_, _, _, hM⟩ := hI; exact zc hM
  ·intro BB a w hI BK BC
   obtain ⟨Bt, Br, hS, hM⟩ := hI
   rw [zy.l1] at hM
   refine wp_seq <| qu <| sM hS rfl fun hS => sM hS rfl fun hS => ?_
   obtain ⟨BD, hM⟩ := qB hM
   refine sO hS (shl rfl rfl BD) rfl fun hS => sB hS rfl fun hS => qF <| qC hS rfl hM (fun BE hM => ?_) (fun BE hM => ?_)
   ·refine wp_skip ?_
    refine qg <| z7 <| qu <| sM hS rfl fun hS => sO hS (shr rfl rfl rfl) rfl fun hS => zr (v := Value.int .i64) (x0 := (zR .i64 Br (1 : Int))) hS (z8 rfl) rfl fun Bx a w hz hS => ?_
    have hM := qA hz hM; clear hz
    refine qF <| zv <| sM hS rfl fun hS => sB hS rfl fun hS => zr (v := Value.int .i64) (x0 := (qk (Bt + (1 : Int)))) hS (z8 rfl) rfl fun BF a w hz hS => ?_
    have hM := qA hz hM; clear hz
    refine q9 <| zk (qg ?_)
    exact BC _ _ ⟨BF, Bx, hS.to [0] (by kernel_rfl) ⟨rfl, rfl, rfl, rfl, rfl, trivial⟩, hM⟩
   ·refine wp_exit ?_
    refine qx (qx (qV (qg ?_)))
    exact BA _ _ ⟨Bt, Br, hS.to [0] (by kernel_rfl) ⟨rfl, rfl, rfl, rfl, rfl, trivial⟩, hM⟩
 ·intro a w hI
  obtain ⟨Bn, Bo, hS, hM⟩ := hI
  rw [zy.j2] at hM
  refine wp_seq ?_
  obtain ⟨BG, hM⟩ := qB hM
  obtain ⟨BH, hM⟩ := qB hM
  refine q8 (vals := [some (.int .i64 Bn), some (.int .i64 Bp), some (.int .i64 (zV .i64 Bn Bp)), some (.int .i64 Bo), some (.int .i64 (qk ((zV .i64 Bn Bp) + Bo))), some (.int .i64 Bn), some (.int .i64 Bq), some (.int .i64 Bo), some (.int .i64 Bn), some (.int .i64 (zV .i64 Bo Bn)), some (.int .i64 (qk (Bq - (zV .i64 Bo Bn)))), some (.int .u32 (wr .u32 (qk (Bq - (zV .i64 Bo Bn))))), some (.agg ⟨[.int .i64 (qk ((zV .i64 Bn Bp) + Bo)), .int .i64 Bn, .int .u32 (wr .u32 (qk (Bq - (zV .i64 Bo Bn))))]⟩), none]) hS z6 rfl ?_
  intro l w ho hcl hA hst
  refine yx hA hst ho hcl zX z5 13 [0, 1, 2, 3, 4, 5, 6, 7, 8, 9, 10, 11, 12] rfl rfl rfl rfl rfl (by exact ⟨nM rfl, nM rfl, nQ rfl (by exact qR (shl rfl rfl BG) rfl), nM rfl, nB rfl, nM rfl, nM rfl, nM rfl, nM rfl, nQ rfl (by exact qR (shl rfl rfl BH) rfl), nB rfl, nQ rfl (by exact qR (vX rfl Tryd.runUnderlying3 Tryd.runUnderlying53) rfl), nQ rfl (by exact qR (Xe ([.int .i64 (qk ((zV .i64 Bn Bp) + Bo)), .int .i64 Bn, .int .u32 (wr .u32 (qk (Bq - (zV .i64 Bo Bn))))]) [(0, 1), (1, 1), (2, 1)] Tryd.zeroValue68 Tryd.runUnderlying68 (by intro w; simp [Tryd.sizeOf3, Tryd.sizeOf53]) rfl rfl) rfl), trivial⟩) fun D l a w ho hcl hav hpre hm hE hk hA hst => ?_
  have hS := (Ss.mk hE hst).env2 (e' := [(4, q7 Bw 0), (28, .agg ⟨[.int .i64 (qk ((zV .i64 Bn Bp) + Bo)), .int .i64 Bn, .int .u32 (wr .u32 (qk (Bq - (zV .i64 Bo Bn))))]⟩)]) ⟨rfl, rfl, trivial⟩
  refine qP rfl <| uX 0 ([.int .i64 (qk ((zV .i64 Bn Bp) + Bo)), .int .i64 Bn, .int .u32 (wr .u32 (qk (Bq - (zV .i64 Bo Bn))))]) ([.int .i64 (qk ((zV .i64 Bn Bp) + Bo)), .int .i64 Bn, .int .u32 (wr .u32 (qk (Bq - (zV .i64 Bo Bn))))]) hS rfl rfl Bz rfl rfl Tryd.sizeOf68 (by simp [Value.oneCell']) (Nat.le_of_ble_eq_true rfl) rfl fun w BL BI hS => qF ?_
  replace hst := hS.st
  obtain ⟨hcl, hmust, hav2, hA⟩ := QI (vals' := [some (.int .i64 Bn), some (.int .i64 Bp), some (.int .i64 (zV .i64 Bn Bp)), some (.int .i64 Bo), some (.int .i64 (qk ((zV .i64 Bn Bp) + Bo))), some (.int .i64 Bn), some (.int .i64 Bq), some (.int .i64 Bo), some (.int .i64 Bn), some (.int .i64 (zV .i64 Bo Bn)), some (.int .i64 (qk (Bq - (zV .i64 Bo Bn)))), some (.int .u32 (wr .u32 (qk (Bq - (zV .i64 Bo Bn))))), some (.agg ⟨[.int .i64 (qk ((zV .i64 Bn Bp) + Bo)), .int .i64 Bn, .int .u32 (wr .u32 (qk (Bq - (zV .i64 Bo Bn))))]⟩), some undef]) 13 [(0, 13), (1, 13), (2, 13), (3, 13), (4, 13), (5, 13), (6, 13), (7, 13), (8, 13), (9, 13), (10, 13), (11, 13), (12, 13)] hA hcl hav hm hpre rfl rfl rfl rfl rfl
  clear hm hav
  refine xG hA hst ho hcl hmust [] rfl rfl rfl trivial fun a w hS => ?_
  replace hS := hS.env2 (e' := [(4, q7 Bw 0)]) ⟨rfl, trivial⟩
  refine qg <| wp_ret ?_
  exact yF (vs := [.agg ⟨[.int .i64 (qk ((zV .i64 Bn Bp) + Bo)), .int .i64 Bn, .int .u32 (wr .u32 (qk (Bq - (zV .i64 Bo Bn))))]⟩]) hS rfl (by exact ⟨Ve 0 ([.int .i64 (qk ((zV .i64 Bn Bp) + Bo)), .int .i64 Bn, .int .u32 (wr .u32 (qk (Bq - (zV .i64 Bo Bn))))]) rfl BI rfl rfl rfl Tryd.isAgg68 Tryd.sizeOf68, trivial⟩) (hret (qk ((zV .i64 Bn Bp) + Bo)) Bn (wr .u32 (qk (Bq - (zV .i64 Bo Bn)))) _ (zj hM) (hS.st.pick [] (by kernel_rfl)))
theorem jH {H : xl} {F : List qs} {w : World} {R : Ending → World → Prop} {kr : (Int × Int × Int) → Prop} {kp : Value → Prop} (hG : Gl H) (K : Nat) (Bt : Int)
    (hS : St w H [] F) (hm : (xP.m K Bt).wp kr kp)
    (hret : ∀ (Bq : Int) (Br : Int) (Bs : Int) (w : World), kr (Bq, Br, Bs) → St w H [] F → R (.returned (.agg ⟨[.int .i64 Bq, .int .i64 Br, .int .u32 Bs]⟩)) w) :
    Calls Tryd.prog 35 ⟨[.int .i64 Bt]⟩ w R := by
 refine enter Tryd.func35 rfl Tryd.ntmps35 rfl hS fun a w hS => ?_
 have hM := hm; clear hm
 rw [xP.m] at hM
 refine qu <| uS ([.int .i64 (0 : Int), .int .i64 (0 : Int), .int .u32 (0 : Int)]) hS Tryd.zeroValue68 rfl rfl fun w BC BB Bu hS => qF <| wp_seq <| qu <| sM hS rfl fun hS => sB hS rfl fun hS => qF <| qC hS rfl hM (fun Bw hM => ?_) (fun Bw hM => ?_)
 ·refine wp_seq ?_
  refine zv <| sO hS (Xe ([.int .i64 (285 : Int), .int .i64 (0 : Int), .int .u32 (0 : Int)]) [(0, 1), (1, 1), (2, 1)] Tryd.zeroValue68 Tryd.runUnderlying68 (by intro w; simp [Tryd.sizeOf3, Tryd.sizeOf53]) rfl rfl) rfl fun hS => uX 0 ([.int .i64 (285 : Int), .int .i64 (0 : Int), .int .u32 (0 : Int)]) ([.int .i64 (285 : Int), .int .i64 (0 : Int), .int .u32 (0 : Int)]) hS rfl rfl Bu rfl rfl Tryd.sizeOf68 (by simp [Value.oneCell']) (Nat.le_of_ble_eq_true rfl) rfl fun w BD Bx hS => qF <| wp_ret <| zz ?_
  exact yF (vs := [.agg ⟨[.int .i64 (285 : Int), .int .i64 (0 : Int), .int .u32 (0 : Int)]⟩]) hS rfl (by exact ⟨Ve 0 ([.int .i64 (285 : Int), .int .i64 (0 : Int), .int .u32 (0 : Int)]) rfl Bx rfl rfl rfl Tryd.isAgg68 Tryd.sizeOf68, trivial⟩) (hret (285 : Int) (0 : Int) (0 : Int) _ (zj hM) (hS.st.pick [] (by kernel_rfl)))
 ·refine wp_skip ?_
  refine qg <| qu <| sM hS rfl fun hS => sB hS rfl fun hS => qO hS rfl Tryd.call52 (jC hG K (qk (Bt - (3 : Int))) (2 : Int) (hS.st.part 0 [0] (by kernel_rfl)) (qy hM) (fun Bn Bo Bp w hM  hst => qM hS.ev hst.appF rfl fun hS => ?_))
  replace hS : Ss _ _ _ H [BB] F _ _ := hS
  refine uS ([.int .i64 (0 : Int), .int .i64 (0 : Int), .int .u32 (0 : Int)]) hS Tryd.zeroValue68 rfl rfl fun w BE BF By hS => uX 0 ([.int .i64 Bn, .int .i64 Bo, .int .u32 Bp]) ([.int .i64 Bn, .int .i64 Bo, .int .u32 Bp]) hS rfl rfl By rfl rfl Tryd.sizeOf68 (by simp [Value.oneCell']) (Nat.le_of_ble_eq_true rfl) rfl fun w BG Bv hS => qF <| qu <| sO hS (xn rfl Tryd.runUnderlying68 rfl Tryd.sizeOf3 rfl) rfl fun hS => sO hS (x5 0 rfl Bv rfl rfl Tryd.isAgg3) rfl fun hS => sB hS rfl fun hS => sO hS (xn rfl Tryd.runUnderlying68 rfl Tryd.sizeOf3 rfl) rfl fun hS => Ks 0 ([.int .i64 (qk (Bn + (257 : Int))), .int .i64 Bo, .int .u32 Bp]) hS rfl rfl Bv rfl rfl rfl rfl Tryd.sizeOf3 fun w BH Bz hS => qF <| qu <| sO hS (vN 0 rfl Bz rfl ([.int .i64 (qk (Bn + (257 : Int))), .int .i64 Bo, .int .u32 Bp]) rfl rfl Tryd.isAgg68 Tryd.sizeOf68) rfl fun hS => uX 1 ([.int .i64 (qk (Bn + (257 : Int))), .int .i64 Bo, .int .u32 Bp]) ([.int .i64 (qk (Bn + (257 : Int))), .int .i64 Bo, .int .u32 Bp]) hS rfl rfl Bu rfl rfl Tryd.sizeOf68 (by simp [Value.oneCell']) (Nat.le_of_ble_eq_true rfl) rfl fun w BI BA hS => qF <| wp_ret ?_
  exact yF (vs := [.agg ⟨[.int .i64 (qk (Bn + (257 : Int))), .int .i64 Bo, .int .u32 Bp]⟩]) hS rfl (by exact ⟨Ve 1 ([.int .i64 (qk (Bn + (257 : Int))), .int .i64 Bo, .int .u32 Bp]) rfl BA rfl rfl rfl Tryd.isAgg68 Tryd.sizeOf68, trivial⟩) (hret (qk (Bn + (257 : Int))) Bo Bp _ (zj hM) (hS.st.pick [] (by kernel_rfl)))
theorem je {H : xl} {F : List qs} {w : World} {R : Ending → World → Prop} {kr : (Int × (List Int)) → Prop} {kp : Value → Prop} (hG : Gl H) (K : Nat) (Bn : qn) (BS : qq) (Bo : z4) (Bp : Nat) (BM : qs) (BN : Option Addr) (BO : Nat) (BP : qs) (Br : Option Addr) (Bs : Nat) (Bv : qs) (Bt : Option Addr) (Bu : Nat) (Bw : qs) (Bz : Option Addr) (BA : Nat) (Bx : qs) (BB : Option Addr) (BC : Nat) (By : qs) (BT : x6 BM Bp ([.int .i64 Bn.Writer_.place_.at_, .slice BN Bn.Writer_.bytes_.length BO, .slice Br Bn.literals_.lengths_.length Bs, .slice Bt Bn.literals_.codes_.length Bu, .slice Bz Bn.distances_.lengths_.length BA, .slice BB Bn.distances_.codes_.length BC]) 49) (BU : zC 5 (ci .u8) 1 BN Bn.Writer_.bytes_ BO BP) (BI : zC 3 (ci .i64) 1 Br Bn.literals_.lengths_ Bs Bv) (BJ : zC 3 (ci .i64) 1 Bt Bn.literals_.codes_ Bu Bw) (BK : zC 3 (ci .i64) 1 Bz Bn.distances_.lengths_ BA Bx) (BL : zC 3 (ci .i64) 1 BB Bn.distances_.codes_ BC By)
    (hS : St w H [BM, BP, Bv, Bw, Bx, By] F) (hm : (xp.m K Bn BS Bo).wp kr kp)
    (hret : ∀ (BD : Int) (BV : Option Addr) (BW : Nat) (Bq : (List Int)) (BX : qs) (BY : qs) (w : World), kr (BD, Bq) → (zC 5 (ci .u8) 1 BV Bq BW BX) → (x6 BY Bp ([.int .i64 BD, .slice BV Bq.length BW, .slice Br Bn.literals_.lengths_.length Bs, .slice Bt Bn.literals_.codes_.length Bu, .slice Bz Bn.distances_.lengths_.length BA, .slice BB Bn.distances_.codes_.length BC]) 49) → St w H [BY, BX, Bv, Bw, Bx, By] F → R (.returned (.tuple ⟨[]⟩)) w) :
    Calls Tryd.prog 50 ⟨[q7 Bp 0, .agg ⟨[.slice Br Bn.literals_.lengths_.length Bs, .slice Bt Bn.literals_.codes_.length Bu]⟩, .agg ⟨[.int .i64 Bo.symbol_, .int .i64 Bo.bits_, .int .u32 Bo.more_]⟩]⟩ w R := by
 refine enter Tryd.func50 rfl Tryd.ntmps50 rfl hS fun a w hS => ?_
 have hM := hm; clear hm
 rw [xp.m] at hM
 refine qu <| bx ([.slice Br Bn.literals_.lengths_.length Bs, .slice Bt Bn.literals_.codes_.length Bu]) hS rfl rfl rfl fun w Di BZ B0 hS => bx ([.int .i64 Bo.symbol_, .int .i64 Bo.bits_, .int .u32 Bo.more_]) hS rfl rfl rfl fun w BH B3 BE hS => qF <| qu <| sM hS rfl fun hS => sO hS (vN 1 rfl B0 rfl ([.slice Br Bn.literals_.lengths_.length Bs, .slice Bt Bn.literals_.codes_.length Bu]) rfl rfl Tryd.isAgg47 Tryd.sizeOf47) rfl fun hS => sO hS (xn rfl Tryd.runUnderlying68 rfl Tryd.sizeOf3 rfl) rfl fun hS => sO hS (x5 0 rfl BE rfl rfl Tryd.isAgg3) rfl fun hS => qO hS rfl Tryd.call41 (xt hG K Bn Bn.literals_ Bo.symbol_ Bp BM BN BO BP Br Bs Bv Bt Bu Bw Bz BA Bx BB BC By BT BU BI BJ BK BL (hS.st.part 6 [2, 3, 4, 5, 6, 7, 0, 1] (by kernel_rfl)) (qy hM) (fun BQ B8 B9 BF B4 B5 w hM Da Db hst => qM hS.ev hst.appF rfl fun hS => ?_))
 replace hS : Ss _ _ _ H [B5, B4, Bv, Bw, Bx, By, B3, BZ] F _ _ := hS
 refine qF <| q8 (vals := [some (q7 Bp 0), some (q7 Bp 0), some (q7 Bp 0), some (q7 BH 2), some (.int .u32 Bo.more_), some (q7 BH 1), some (.int .i64 Bo.bits_), none]) hS z6 rfl ?_
 intro l w ho hcl hA hst
 refine yx hA hst ho hcl zX z5 7 [0, 1, 2, 3, 4, 5, 6] rfl rfl rfl rfl rfl (by exact ⟨nM rfl, nQ rfl (by exact qR (yV rfl) rfl), nQ rfl (by exact qR (xn rfl Tryd.runUnderlying49 rfl Tryd.sizeOf44 rfl) rfl), nQ rfl (by exact qR (xn rfl Tryd.runUnderlying68 rfl Tryd.sizeOf53 rfl) rfl), nQ rfl (by exact qR (x5 6 rfl BE rfl rfl Tryd.isAgg53) rfl), nQ rfl (by exact qR (xn rfl Tryd.runUnderlying68 rfl Tryd.sizeOf3 rfl) rfl), nQ rfl (by exact qR (x5 6 rfl BE rfl rfl Tryd.isAgg3) rfl), trivial⟩) fun D l a w ho hcl hav hpre hm hE hk hA hst => ?_
 have hS := (Ss.mk hE hst).env2 (e' := [(13, q7 Bp 0), (15, .int .u32 Bo.more_), (17, .int .i64 Bo.bits_)]) ⟨rfl, rfl, rfl, trivial⟩
 refine qP rfl <| qO hS rfl Tryd.call23 (qU hG K (qn.mk (qG.mk (qJ.mk BQ) BF) Bn.literals_ Bn.distances_) Bo.more_ Bo.bits_ Bp B5 B8 B9 B4 Br Bs Bv Bt Bu Bw Bz BA Bx BB BC By Db Da BI BJ BK BL (hS.st.part 6 [0, 1, 2, 3, 4, 5, 6, 7] (by kernel_rfl)) (qy hM) (fun Dc BR De Df BG B6 B7 w hM Dg Dh hst => qM hS.ev hst.appF rfl fun hS => ?_))
 replace hS : Ss _ _ _ H [B7, B6, Bv, Bw, Bx, By, B3, BZ] F _ _ := hS
 refine qF ?_
 replace hst := hS.st
 obtain ⟨hcl, hmust, hav2, hA⟩ := dn (vals' := [some (q7 Bp 0), some (q7 Bp 0), some (q7 Bp 0), some (q7 BH 2), some (.int .u32 Bo.more_), some (q7 BH 1), some (.int .i64 Bo.bits_), some (.int .i64 Dc)]) 7 [(2, 7), (4, 7), (6, 7), (1, 2), (3, 4), (5, 6), (0, 1)] hA hcl hav hm hpre hk rfl rfl rfl rfl rfl rfl rfl
 clear hm hav
 refine xG hA hst ho hcl hmust [] rfl rfl rfl trivial fun a w hS => ?_
 replace hS := hS.env2 (e' := []) trivial
 exact yj (rs := []) hS rfl rfl (hret BR De Df BG B6 B7 _ (zj hM) Dg Dh (hS.st.pick [0, 1, 2, 3, 4, 5] (by kernel_rfl)))
theorem y8 {H : xl} {F : List qs} {w : World} {R : Ending → World → Prop} {kr : (Int × Int × Int) → Prop} {kp : Value → Prop} (hG : Gl H) (K : Nat) (Bt : Int)
    (hS : St w H [] F) (hm : (xy.m K Bt).wp kr kp)
    (hret : ∀ (Bq : Int) (Br : Int) (Bs : Int) (w : World), kr (Bq, Br, Bs) → St w H [] F → R (.returned (.agg ⟨[.int .i64 Bq, .int .i64 Br, .int .u32 Bs]⟩)) w) :
    Calls Tryd.prog 36 ⟨[.int .i64 Bt]⟩ w R := by
 refine enter Tryd.func36 rfl Tryd.ntmps36 rfl hS fun a w hS => ?_
 have hM := hm; clear hm
 rw [xy.m] at hM
 refine qu <| uS ([.int .i64 (0 : Int), .int .i64 (0 : Int), .int .u32 (0 : Int)]) hS Tryd.zeroValue68 rfl rfl fun w Bx Bw Bu hS => qF <| qu <| sM hS rfl fun hS => sB hS rfl fun hS => qO hS rfl Tryd.call52 (jC hG K (qk (Bt - (1 : Int))) (1 : Int) (hS.st.part 0 [0] (by kernel_rfl)) (qy hM) (fun Bn Bo Bp w hM  hst => qM hS.ev hst.appF rfl fun hS => ?_))
 replace hS : Ss _ _ _ H [Bw] F _ _ := hS
 refine uX 0 ([.int .i64 Bn, .int .i64 Bo, .int .u32 Bp]) ([.int .i64 Bn, .int .i64 Bo, .int .u32 Bp]) hS rfl rfl Bu rfl rfl Tryd.sizeOf68 (by simp [Value.oneCell']) (Nat.le_of_ble_eq_true rfl) rfl fun w By Bv hS => qF <| wp_ret ?_
 exact yF (vs := [.agg ⟨[.int .i64 Bn, .int .i64 Bo, .int .u32 Bp]⟩]) hS rfl (by exact ⟨Ve 0 ([.int .i64 Bn, .int .i64 Bo, .int .u32 Bp]) rfl Bv rfl rfl rfl Tryd.isAgg68 Tryd.sizeOf68, trivial⟩) (hret Bn Bo Bp _ (zj hM) (hS.st.pick [] (by kernel_rfl)))
theorem yT {H : xl} {F : List qs} {w : World} {R : Ending → World → Prop} {kr : (Int × (List Int)) → Prop} {kp : Value → Prop} (hG : Gl H) (K : Nat) (Bn : qn) (Db : qq) (Bq : Int) (Br : Nat) (B4 : qs) (B5 : Option Addr) (B6 : Nat) (B7 : qs) (BI : Option Addr) (BJ : Nat) (BD : qs) (BK : Option Addr) (BL : Nat) (BE : qs) (BA : Option Addr) (BB : Nat) (BF : qs) (Bu : Option Addr) (Bv : Nat) (BG : qs) (Dc : x6 B4 Br ([.int .i64 Bn.Writer_.place_.at_, .slice B5 Bn.Writer_.bytes_.length B6, .slice BI Bn.literals_.lengths_.length BJ, .slice BK Bn.literals_.codes_.length BL, .slice BA Bn.distances_.lengths_.length BB, .slice Bu Bn.distances_.codes_.length Bv]) 49) (De : zC 5 (ci .u8) 1 B5 Bn.Writer_.bytes_ B6 B7) (Df : zC 3 (ci .i64) 1 BI Bn.literals_.lengths_ BJ BD) (Dg : zC 3 (ci .i64) 1 BK Bn.literals_.codes_ BL BE) (BM : zC 3 (ci .i64) 1 BA Bn.distances_.lengths_ BB BF) (BN : zC 3 (ci .i64) 1 Bu Bn.distances_.codes_ Bv BG)
    (hS : St w H [B4, B7, BD, BE, BF, BG] F) (hm : (zw.m K Bn Db Bq).wp kr kp)
    (hret : ∀ (BC : Int) (BT : Option Addr) (BU : Nat) (Bt : (List Int)) (BV : qs) (BW : qs) (w : World), kr (BC, Bt) → (zC 5 (ci .u8) 1 BT Bt BU BV) → (x6 BW Br ([.int .i64 BC, .slice BT Bt.length BU, .slice BI Bn.literals_.lengths_.length BJ, .slice BK Bn.literals_.codes_.length BL, .slice BA Bn.distances_.lengths_.length BB, .slice Bu Bn.distances_.codes_.length Bv]) 49) → St w H [BW, BV, BD, BE, BF, BG] F → R (.returned (.tuple ⟨[]⟩)) w) :
    Calls Tryd.prog 41 ⟨[q7 Br 0, .agg ⟨[.slice BA Bn.distances_.lengths_.length BB, .slice Bu Bn.distances_.codes_.length Bv]⟩, .int .i64 Bq]⟩ w R := by
 refine enter Tryd.func41 rfl Tryd.ntmps41 rfl hS fun a w hS => ?_
 have hM := hm; clear hm
 rw [zw.m] at hM
 refine qu <| bx ([.slice BA Bn.distances_.lengths_.length BB, .slice Bu Bn.distances_.codes_.length Bv]) hS rfl rfl rfl fun w BR Dh BX hS => qF <| qu <| sO hS (xn rfl Tryd.runUnderlying47 rfl Tryd.sizeOf45 rfl) rfl fun hS => sO hS (x5 0 rfl BX rfl rfl Tryd.isAgg45) rfl fun hS => sM hS rfl fun hS => ?_
 obtain ⟨BY, hM⟩ := qB hM
 refine sO hS (xd rfl rfl Tryd.runUnderlying45 Tryd.sizeOf3 (BM.rd (i := 5) rfl) (fun _ => rfl) rfl BY) rfl fun hS => sO hS (x3 rfl (BM.rd (i := 5) rfl) (fun _ => rfl) BY rfl Tryd.isAgg3) rfl fun hS => sB hS rfl fun hS => zr (v := Value.int .i64) (x0 := (qk ((rd Bn.distances_.lengths_ Bq) - (1 : Int)))) hS (z8 rfl) rfl fun Do a w hz hS => ?_
 have hM := qA hz hM; clear hz
 refine qF <| z7 <| zd (fun BZ a w => ∃ (Bs : Int) (Bw : Option Addr) (Bx : Nat) (Bo : (List Int)) (By : qs) (Bz : qs) (Bp : Int), Ss 30 [] [(0, q7 Br 0), (2, .int .i64 Bq), (4, q7 BR 0), (6, .int .i64 Bp)] H [Bz, By, BD, BE, BF, BG, Dh] F a w ∧ (zC 5 (ci .u8) 1 Bw Bo Bx By) ∧ (x6 Bz Br ([.int .i64 Bs, .slice Bw Bo.length Bx, .slice BI Bn.literals_.lengths_.length BJ, .slice BK Bn.literals_.codes_.length BL, .slice BA Bn.distances_.lengths_.length BB, .slice Bu Bn.distances_.codes_.length Bv]) 49) ∧ (zw.l1 K Bn Bq BZ Bs Bo Bp).wp kr kp) K ?_ ?_ ?_
 ·exact ⟨Bn.Writer_.place_.at_, B5, B6, Bn.Writer_.bytes_, B7, B4, Do, hS.to [1, 2, 3, 4, 5, 6, 0] (by kernel_rfl) ⟨rfl, rfl, rfl, rfl, trivial⟩, De, Dc, hM⟩
 ·intro a w hI; obtain ⟨_, _, _, _, _, _, _, _, _, _, hM⟩ := hI; exact zc hM
 ·intro BZ a w hI Dp B8
  obtain ⟨Bs, Bw, Bx, Bo, By, Bz, Bp, hS, BO, BP, hM⟩ := hI
  rw [zw.l1] at hM
  refine wp_seq <| qu <| sM hS rfl fun hS => sB hS rfl fun hS => qF <| qC hS rfl hM (fun B9 hM => ?_) (fun B9 hM => ?_)
  ·refine wp_skip ?_
   refine qg <| wp_seq <| z7 ?_
   obtain ⟨BQ, hM⟩ := qB hM
   obtain ⟨Da, hM⟩ := qB hM
   refine q8 (vals := [some (q7 Br 0), some (q7 Br 0), some (q7 Br 0), some (q7 BR 1), some (.slice Bu Bn.distances_.codes_.length Bv), some (.int .i64 Bq), some (zA Bu (Int.toNat Bq * 1)), some (.int .i64 (rd Bn.distances_.codes_ Bq)), some (.int .i64 Bp), some (.int .i64 (zR .i64 (rd Bn.distances_.codes_ Bq) Bp)), some (.int .i64 (xh .i64 (zR .i64 (rd Bn.distances_.codes_ Bq) Bp) (1 : Int))), some (.int .u32 (wr .u32 (xh .i64 (zR .i64 (rd Bn.distances_.codes_ Bq) Bp) (1 : Int)))), none]) hS z6 rfl ?_
   intro l w ho hcl hA hst
   refine yx hA hst ho hcl zX z5 12 [0, 1, 2, 3, 4, 5, 6, 7, 8, 9, 10, 11] rfl rfl rfl rfl rfl (by exact ⟨nM rfl, nQ rfl (by exact qR (yV rfl) rfl), nQ rfl (by exact qR (xn rfl Tryd.runUnderlying49 rfl Tryd.sizeOf44 rfl) rfl), nQ rfl (by exact qR (xn rfl Tryd.runUnderlying47 rfl Tryd.sizeOf45 rfl) rfl), nQ rfl (by exact qR (x5 6 rfl BX rfl rfl Tryd.isAgg45) rfl), nM rfl, nQ rfl (by exact qR (xd rfl rfl Tryd.runUnderlying45 Tryd.sizeOf3 (BN.rd (i := 5) rfl) (fun _ => rfl) rfl BQ) rfl), nQ rfl (by exact qR (x3 rfl (BN.rd (i := 5) rfl) (fun _ => rfl) BQ rfl Tryd.isAgg3) rfl), nM rfl, nQ rfl (by exact qR (shr rfl rfl Da) rfl), nB rfl, nQ rfl (by exact qR (vX rfl Tryd.runUnderlying3 Tryd.runUnderlying53) rfl), trivial⟩) fun D l a w ho hcl hav hpre hm hE hk hA hst => ?_
   have hS := (Ss.mk hE hst).env2 (e' := [(19, q7 Br 0), (28, .int .u32 (wr .u32 (xh .i64 (zR .i64 (rd Bn.distances_.codes_ Bq) Bp) (1 : Int))))]) ⟨rfl, rfl, trivial⟩
   refine qP rfl <| qO hS rfl Tryd.call23 (qU hG K (qn.mk (qG.mk (qJ.mk Bs) Bo) Bn.literals_ Bn.distances_) (wr .u32 (xh .i64 (zR .i64 (rd Bn.distances_.codes_ Bq) Bp) (1 : Int))) (1 : Int) Br Bz Bw Bx By BI BJ BD BK BL BE BA BB BF Bu Bv BG BP BO Df Dg BM BN (hS.st.part 6 [0, 1, 2, 3, 4, 5, 6] (by kernel_rfl)) (qy hM) (fun Di BS Dj Dk BH B0 B3 w hM Dl Dm hst => qM hS.ev hst.appF rfl fun hS => ?_))
   replace hS : Ss _ _ _ H [B3, B0, BD, BE, BF, BG, Dh] F _ _ := hS
   refine qF ?_
   replace hst := hS.st
   obtain ⟨hcl, hmust, hav2, hA⟩ := dn (vals' := [some (q7 Br 0), some (q7 Br 0), some (q7 Br 0), some (q7 BR 1), some (.slice Bu Bn.distances_.codes_.length Bv), some (.int .i64 Bq), some (zA Bu (Int.toNat Bq * 1)), some (.int .i64 (rd Bn.distances_.codes_ Bq)), some (.int .i64 Bp), some (.int .i64 (zR .i64 (rd Bn.distances_.codes_ Bq) Bp)), some (.int .i64 (xh .i64 (zR .i64 (rd Bn.distances_.codes_ Bq) Bp) (1 : Int))), some (.int .u32 (wr .u32 (xh .i64 (zR .i64 (rd Bn.distances_.codes_ Bq) Bp) (1 : Int)))), some (.int .i64 Di)]) 12 [(2, 12), (11, 12), (1, 2), (10, 11), (0, 1), (9, 10), (7, 9), (8, 9), (6, 7), (4, 6), (5, 6), (3, 4)] hA hcl hav hm hpre hk rfl rfl rfl rfl rfl rfl rfl
   clear hm hav
   refine xG hA hst ho hcl hmust [] rfl rfl rfl trivial fun a w hS => ?_
   replace hS := hS.env2 (e' := [(0, q7 Br 0), (2, .int .i64 Bq), (4, q7 BR 0), (6, .int .i64 Bp)]) ⟨rfl, rfl, rfl, rfl, trivial⟩
   refine zk (qg ?_)
   refine zv <| sM hS rfl fun hS => sB hS rfl fun hS => zr (v := Value.int .i64) (x0 := (qk (Bp - (1 : Int)))) hS (z8 rfl) rfl fun Dn a w hz hS => ?_
   have hM := qA hz hM; clear hz
   refine q9 <| qg ?_
   exact B8 _ _ ⟨BS, Dj, Dk, BH, B0, B3, Dn, hS.to [0, 1, 2, 3, 4, 5, 6] (by kernel_rfl) ⟨rfl, rfl, rfl, rfl, trivial⟩, Dl, Dm, hM⟩
  ·refine wp_exit ?_
   refine qx (qx (qV ?_))
   exact yj (rs := []) hS rfl rfl (hret Bs Bw Bx Bo By Bz _ (zj hM) BO BP (hS.st.pick [0, 1, 2, 3, 4, 5] (by kernel_rfl)))
theorem jg {H : xl} {F : List qs} {w : World} {R : Ending → World → Prop} {kr : (Int × (List Int)) → Prop} {kp : Value → Prop} (hG : Gl H) (K : Nat) (Bn : qn) (B0 : qq) (Bo : z4) (Bq : Nat) (BW : qs) (BX : Option Addr) (BY : Nat) (BZ : qs) (BC : Option Addr) (BD : Nat) (Bv : qs) (BE : Option Addr) (BF : Nat) (Bw : qs) (Br : Option Addr) (Bs : Nat) (Bx : qs) (Bt : Option Addr) (Bu : Nat) (By : qs) (B3 : x6 BW Bq ([.int .i64 Bn.Writer_.place_.at_, .slice BX Bn.Writer_.bytes_.length BY, .slice BC Bn.literals_.lengths_.length BD, .slice BE Bn.literals_.codes_.length BF, .slice Br Bn.distances_.lengths_.length Bs, .slice Bt Bn.distances_.codes_.length Bu]) 49) (B4 : zC 5 (ci .u8) 1 BX Bn.Writer_.bytes_ BY BZ) (BK : zC 3 (ci .i64) 1 BC Bn.literals_.lengths_ BD Bv) (BL : zC 3 (ci .i64) 1 BE Bn.literals_.codes_ BF Bw) (BM : zC 3 (ci .i64) 1 Br Bn.distances_.lengths_ Bs Bx) (BN : zC 3 (ci .i64) 1 Bt Bn.distances_.codes_ Bu By)
    (hS : St w H [BW, BZ, Bv, Bw, Bx, By] F) (hm : (xm.m K Bn B0 Bo).wp kr kp)
    (hret : ∀ (Bz : Int) (BO : Option Addr) (BP : Nat) (Bp : (List Int)) (BQ : qs) (BR : qs) (w : World), kr (Bz, Bp) → (zC 5 (ci .u8) 1 BO Bp BP BQ) → (x6 BR Bq ([.int .i64 Bz, .slice BO Bp.length BP, .slice BC Bn.literals_.lengths_.length BD, .slice BE Bn.literals_.codes_.length BF, .slice Br Bn.distances_.lengths_.length Bs, .slice Bt Bn.distances_.codes_.length Bu]) 49) → St w H [BR, BQ, Bv, Bw, Bx, By] F → R (.returned (.tuple ⟨[]⟩)) w) :
    Calls Tryd.prog 50 ⟨[q7 Bq 0, .agg ⟨[.slice Br Bn.distances_.lengths_.length Bs, .slice Bt Bn.distances_.codes_.length Bu]⟩, .agg ⟨[.int .i64 Bo.symbol_, .int .i64 Bo.bits_, .int .u32 Bo.more_]⟩]⟩ w R := by
 refine enter Tryd.func50 rfl Tryd.ntmps50 rfl hS fun a w hS => ?_
 have hM := hm; clear hm
 rw [xm.m] at hM
 refine qu <| bx ([.slice Br Bn.distances_.lengths_.length Bs, .slice Bt Bn.distances_.codes_.length Bu]) hS rfl rfl rfl fun w Di B5 B6 hS => bx ([.int .i64 Bo.symbol_, .int .i64 Bo.bits_, .int .u32 Bo.more_]) hS rfl rfl rfl fun w BH B7 BG hS => qF <| qu <| sM hS rfl fun hS => sO hS (vN 1 rfl B6 rfl ([.slice Br Bn.distances_.lengths_.length Bs, .slice Bt Bn.distances_.codes_.length Bu]) rfl rfl Tryd.isAgg47 Tryd.sizeOf47) rfl fun hS => sO hS (xn rfl Tryd.runUnderlying68 rfl Tryd.sizeOf3 rfl) rfl fun hS => sO hS (x5 0 rfl BG rfl rfl Tryd.isAgg3) rfl fun hS => qO hS rfl Tryd.call41 (yT hG K Bn Bn.distances_ Bo.symbol_ Bq BW BX BY BZ BC BD Bv BE BF Bw Br Bs Bx Bt Bu By B3 B4 BK BL BM BN (hS.st.part 6 [2, 3, 4, 5, 6, 7, 0, 1] (by kernel_rfl)) (qy hM) (fun BI B8 B9 BA BS BT w hM Da Db hst => qM hS.ev hst.appF rfl fun hS => ?_))
 replace hS : Ss _ _ _ H [BT, BS, Bv, Bw, Bx, By, B7, B5] F _ _ := hS
 refine qF <| q8 (vals := [some (q7 Bq 0), some (q7 Bq 0), some (q7 Bq 0), some (q7 BH 2), some (.int .u32 Bo.more_), some (q7 BH 1), some (.int .i64 Bo.bits_), none]) hS z6 rfl ?_
 intro l w ho hcl hA hst
 refine yx hA hst ho hcl zX z5 7 [0, 1, 2, 3, 4, 5, 6] rfl rfl rfl rfl rfl (by exact ⟨nM rfl, nQ rfl (by exact qR (yV rfl) rfl), nQ rfl (by exact qR (xn rfl Tryd.runUnderlying49 rfl Tryd.sizeOf44 rfl) rfl), nQ rfl (by exact qR (xn rfl Tryd.runUnderlying68 rfl Tryd.sizeOf53 rfl) rfl), nQ rfl (by exact qR (x5 6 rfl BG rfl rfl Tryd.isAgg53) rfl), nQ rfl (by exact qR (xn rfl Tryd.runUnderlying68 rfl Tryd.sizeOf3 rfl) rfl), nQ rfl (by exact qR (x5 6 rfl BG rfl rfl Tryd.isAgg3) rfl), trivial⟩) fun D l a w ho hcl hav hpre hm hE hk hA hst => ?_
 have hS := (Ss.mk hE hst).env2 (e' := [(13, q7 Bq 0), (15, .int .u32 Bo.more_), (17, .int .i64 Bo.bits_)]) ⟨rfl, rfl, rfl, trivial⟩
 refine qP rfl <| qO hS rfl Tryd.call23 (qU hG K (qn.mk (qG.mk (qJ.mk BI) BA) Bn.literals_ Bn.distances_) Bo.more_ Bo.bits_ Bq BT B8 B9 BS BC BD Bv BE BF Bw Br Bs Bx Bt Bu By Db Da BK BL BM BN (hS.st.part 6 [0, 1, 2, 3, 4, 5, 6, 7] (by kernel_rfl)) (qy hM) (fun Dc BJ De Df BB BU BV w hM Dg Dh hst => qM hS.ev hst.appF rfl fun hS => ?_))
 replace hS : Ss _ _ _ H [BV, BU, Bv, Bw, Bx, By, B7, B5] F _ _ := hS
 refine qF ?_
 replace hst := hS.st
 obtain ⟨hcl, hmust, hav2, hA⟩ := dn (vals' := [some (q7 Bq 0), some (q7 Bq 0), some (q7 Bq 0), some (q7 BH 2), some (.int .u32 Bo.more_), some (q7 BH 1), some (.int .i64 Bo.bits_), some (.int .i64 Dc)]) 7 [(2, 7), (4, 7), (6, 7), (1, 2), (3, 4), (5, 6), (0, 1)] hA hcl hav hm hpre hk rfl rfl rfl rfl rfl rfl rfl
 clear hm hav
 refine xG hA hst ho hcl hmust [] rfl rfl rfl trivial fun a w hS => ?_
 replace hS := hS.env2 (e' := []) trivial
 exact yj (rs := []) hS rfl rfl (hret BJ De Df BB BU BV _ (zj hM) Dg Dh (hS.st.pick [0, 1, 2, 3, 4, 5] (by kernel_rfl)))
theorem yu {H : xl} {F : List qs} {w : World} {R : Ending → World → Prop} {kr : (Int × (List Int)) → Prop} {kp : Value → Prop} (hG : Gl H) (K : Nat) (Bn : qn) (Bo : List qp) (Bp : Nat) (DC : qs) (DD : Option Addr) (DE : Nat) (DF : qs) (Bs : Option Addr) (Bt : Nat) (BA : qs) (Bu : Option Addr) (Bv : Nat) (BB : qs) (BC : Option Addr) (BD : Nat) (BE : qs) (BF : Option Addr) (BG : Nat) (BH : qs) (B8 : Option Addr) (B9 : Nat) (DL : x6 DC Bp ([.int .i64 Bn.Writer_.place_.at_, .slice DD Bn.Writer_.bytes_.length DE, .slice Bs Bn.literals_.lengths_.length Bt, .slice Bu Bn.literals_.codes_.length Bv, .slice BC Bn.distances_.lengths_.length BD, .slice BF Bn.distances_.codes_.length BG]) 49) (DM : zC 5 (ci .u8) 1 DD Bn.Writer_.bytes_ DE DF) (BX : zC 3 (ci .i64) 1 Bs Bn.literals_.lengths_ Bt BA) (BY : zC 3 (ci .i64) 1 Bu Bn.literals_.codes_ Bv BB) (BZ : zC 3 (ci .i64) 1 BC Bn.distances_.lengths_ BD BE) (B0 : zC 3 (ci .i64) 1 BF Bn.distances_.codes_ BG BH) (Dp : yM H [] F qp.cells B8 Bo) (D2 : Bo.length ≤ B9)
    (hS : St w H [DC, DF, BA, BB, BE, BH] F) (hm : (qS.m K Bn Bo).wp kr kp)
    (hret : ∀ (B3 : Int) (Dq : Option Addr) (Dr : Nat) (BN : (List Int)) (Dt : qs) (Du : qs) (w : World), kr (B3, BN) → (zC 5 (ci .u8) 1 Dq BN Dr Dt) → (x6 Du Bp ([.int .i64 B3, .slice Dq BN.length Dr, .slice Bs Bn.literals_.lengths_.length Bt, .slice Bu Bn.literals_.codes_.length Bv, .slice BC Bn.distances_.lengths_.length BD, .slice BF Bn.distances_.codes_.length BG]) 49) → St w H [Du, Dt, BA, BB, BE, BH] F → R (.returned (.tuple ⟨[]⟩)) w) :
    Calls Tryd.prog 24 ⟨[q7 Bp 0, .slice B8 Bo.length B9]⟩ w R := by
 refine enter Tryd.func24 rfl Tryd.ntmps24 rfl hS fun a w hS => ?_
 have hM := hm; clear hm
 rw [qS.m] at hM
 refine qX (fun a w => ∃ (BP : Int) (B4 : Option Addr) (B5 : Nat) (Bw : (List Int)) (B6 : qs) (B7 : qs), Ss 49 [] [(0, q7 Bp 0)] H [B7, B6, BA, BB, BE, BH] F a w ∧ (zC 5 (ci .u8) 1 B4 Bw B5 B6) ∧ (x6 B7 Bp ([.int .i64 BP, .slice B4 Bw.length B5, .slice Bs Bn.literals_.lengths_.length Bt, .slice Bu Bn.literals_.codes_.length Bv, .slice BC Bn.distances_.lengths_.length BD, .slice BF Bn.distances_.codes_.length BG]) 49) ∧ (qS.j2 K Bn BP Bw).wp kr kp) (fun D3 DG => ?_) ?_
 ·refine wp_seq ?_
  refine zv <| sM hS rfl fun hS => sO hS (xI rfl Tryd.runUnderlying25) rfl fun hS => sM hS rfl fun hS => qF <| z7 <| zd (fun Dv a w => ∃ (Bz : Int) (BS : Option Addr) (BT : Nat) (Br : (List Int)) (BQ : qs) (BR : qs) (Bq : Int), Ss 49 [] [(0, q7 Bp 0), (6, .slice B8 Bo.length B9), (7, .int .i64 (Bo.length : Int)), (8, .int .i64 Bq)] H [BR, BQ, BA, BB, BE, BH] F a w ∧ (zC 5 (ci .u8) 1 BS Br BT BQ) ∧ (x6 BR Bp ([.int .i64 Bz, .slice BS Br.length BT, .slice Bs Bn.literals_.lengths_.length Bt, .slice Bu Bn.literals_.codes_.length Bv, .slice BC Bn.distances_.lengths_.length BD, .slice BF Bn.distances_.codes_.length BG]) 49) ∧ (qS.l1 K Bn Bo Dv Bz Br Bq).wp kr kp) K ?_ ?_ ?_
  ·exact ⟨Bn.Writer_.place_.at_, DD, DE, Bn.Writer_.bytes_, DF, DC, (0 : Int), hS.to [0, 1, 2, 3, 4, 5] (by kernel_rfl) ⟨rfl, rfl, rfl, rfl, trivial⟩, DM, DL, hM⟩
  ·intro a w hI; obtain ⟨_, _, _, _, _, _, _, _, _, _, hM⟩ := hI; exact zc hM
  ·intro Dv a w hI D4 Df
   obtain ⟨Bz, BS, BT, Br, BQ, BR, Bq, hS, BW, BO, hM⟩ := hI
   rw [qS.l1] at hM
   refine qu <| sB hS rfl fun hS => qF <| wp_seq <| qC hS rfl hM (fun DH hM => ?_) (fun DH hM => ?_)
   ·refine wp_skip ?_
    refine qg <| wp_seq <| z7 <| wp_seq <| zv ?_
    obtain ⟨Dg, hM⟩ := qB hM
    refine sO hS (xd rfl rfl Tryd.runUnderlying25 Tryd.sizeOf32 Dp.wk (fun _ => rfl) rfl Dg) rfl fun hS => sO hS (xV rfl Dp.wk (fun _ => rfl) Dg Tryd.isAgg32 Tryd.sizeOf32 rfl) rfl fun hS => uS ([.int .u8 (0 : Int), .int .i64 (0 : Int), .int .i64 (0 : Int)]) hS Tryd.zeroValue32 rfl rfl fun w BI D5 DI hS => uX 0 ([.int .u8 ((rd Bo Bq).Lit_), .int .i64 ((rd Bo Bq).Len_), .int .i64 ((rd Bo Bq).Dist_)]) ([.int .u8 ((rd Bo Bq).Lit_), .int .i64 ((rd Bo Bq).Len_), .int .i64 ((rd Bo Bq).Dist_)]) hS rfl rfl DI rfl rfl Tryd.sizeOf32 (by simp [Value.oneCell']) (Nat.le_of_ble_eq_true rfl) rfl fun w BV BU hS => qF <| wp_seq <| qu <| sO hS (xn rfl Tryd.runUnderlying32 rfl Tryd.sizeOf3 rfl) rfl fun hS => sO hS (x5 0 rfl BU rfl rfl Tryd.isAgg3) rfl fun hS => sB hS rfl fun hS => qF <| qC hS rfl hM (fun DJ hM => ?_) (fun DJ hM => ?_)
    ·refine wp_seq ?_
     refine q8 (vals := [some (q7 Bp 0), some (q7 Bp 0), some (q7 Bp 0), some (q7 Bp 2), some (.agg ⟨[.slice Bs Bn.literals_.lengths_.length Bt, .slice Bu Bn.literals_.codes_.length Bv]⟩), some (q7 BI 0), some (.int .u8 ((rd Bo Bq).Lit_)), some (.int .i64 (wr .i64 (rd Bo Bq).Lit_)), none]) hS z6 rfl ?_
     intro l w ho hcl hA hst
     refine yx hA hst ho hcl zX z5 8 [0, 1, 2, 3, 4, 5, 6, 7] rfl rfl rfl rfl rfl (by exact ⟨nM rfl, nM rfl, nQ rfl (by exact qR (yV rfl) rfl), nQ rfl (by exact qR (xn rfl Tryd.runUnderlying49 rfl Tryd.sizeOf47 rfl) rfl), nQ rfl (by exact qR (vN 1 rfl BO rfl ([.slice Bs Bn.literals_.lengths_.length Bt, .slice Bu Bn.literals_.codes_.length Bv]) rfl rfl Tryd.isAgg47 Tryd.sizeOf47) rfl), nQ rfl (by exact qR (xn rfl Tryd.runUnderlying32 rfl Tryd.sizeOf5 rfl) rfl), nQ rfl (by exact qR (x5 0 rfl BU rfl rfl Tryd.isAgg5) rfl), nQ rfl (by exact qR (vX rfl Tryd.runUnderlying5 Tryd.runUnderlying3) rfl), trivial⟩) fun D l a w ho hcl hav hpre hm hE hk hA hst => ?_
     have hS := (Ss.mk hE hst).env2 (e' := [(15, q7 Bp 0), (19, .agg ⟨[.slice Bs Bn.literals_.lengths_.length Bt, .slice Bu Bn.literals_.codes_.length Bv]⟩), (22, .int .i64 (wr .i64 (rd Bo Bq).Lit_))]) ⟨rfl, rfl, rfl, trivial⟩
     refine qP rfl <| qO hS rfl Tryd.call41 (xt hG K (qn.mk (qG.mk (qJ.mk Bz) Br) Bn.literals_ Bn.distances_) Bn.literals_ (wr .i64 (rd Bo Bq).Lit_) Bp BR BS BT BQ Bs Bt BA Bu Bv BB BC BD BE BF BG BH BO BW BX BY BZ B0 (hS.st.part 6 [1, 2, 3, 4, 5, 6, 0] (by kernel_rfl)) (qy hM) (fun Dl DN DO Da Dw Dx w hM DP DQ hst => qM hS.ev hst.appF rfl fun hS => ?_))
     replace hS : Ss _ _ _ H [Dx, Dw, BA, BB, BE, BH, BV] F _ _ := hS
     refine qF ?_
     replace hst := hS.st
     obtain ⟨hcl, hmust, hav2, hA⟩ := dn (vals' := [some (q7 Bp 0), some (q7 Bp 0), some (q7 Bp 0), some (q7 Bp 2), some (.agg ⟨[.slice Bs Bn.literals_.lengths_.length Bt, .slice Bu Bn.literals_.codes_.length Bv]⟩), some (q7 BI 0), some (.int .u8 ((rd Bo Bq).Lit_)), some (.int .i64 (wr .i64 (rd Bo Bq).Lit_)), some (.tuple ⟨[]⟩)]) 8 [(0, 8), (4, 8), (7, 8), (3, 4), (6, 7), (2, 3), (5, 6), (1, 2)] hA hcl hav hm hpre hk rfl rfl rfl rfl rfl rfl rfl
     clear hm hav
     refine xG hA hst ho hcl hmust [] rfl rfl rfl trivial fun a w hS => ?_
     replace hS := hS.env2 (e' := [(0, q7 Bp 0), (6, .slice B8 Bo.length B9), (7, .int .i64 (Bo.length : Int)), (8, .int .i64 Bq)]) ⟨rfl, rfl, rfl, rfl, trivial⟩
     refine qg <| wp_exit <| qx (qV (qg ?_))
     refine zv <| sB hS rfl fun hS => sM hS rfl fun hS => q9 <| qg ?_
     exact Df _ _ ⟨Dl, DN, DO, Da, Dw, Dx, (qk (Bq + (1 : Int))), hS.to [0, 1, 2, 3, 4, 5] (by kernel_rfl) ⟨rfl, rfl, rfl, rfl, trivial⟩, DP, DQ, hM⟩
    ·refine wp_skip ?_
     refine qg <| wp_seq <| q8 (vals := [some (q7 Bp 0), some (q7 Bp 0), some (q7 Bp 0), some (q7 Bp 2), some (.agg ⟨[.slice Bs Bn.literals_.lengths_.length Bt, .slice Bu Bn.literals_.codes_.length Bv]⟩), some (q7 BI 1), some (.int .i64 ((rd Bo Bq).Len_)), none, none]) hS z6 rfl ?_
     intro l w ho hcl hA hst
     refine yx hA hst ho hcl zX z5 7 [0, 1, 2, 3, 4, 5, 6] rfl rfl rfl rfl rfl (by exact ⟨nM rfl, nM rfl, nQ rfl (by exact qR (yV rfl) rfl), nQ rfl (by exact qR (xn rfl Tryd.runUnderlying49 rfl Tryd.sizeOf47 rfl) rfl), nQ rfl (by exact qR (vN 1 rfl BO rfl ([.slice Bs Bn.literals_.lengths_.length Bt, .slice Bu Bn.literals_.codes_.length Bv]) rfl rfl Tryd.isAgg47 Tryd.sizeOf47) rfl), nQ rfl (by exact qR (xn rfl Tryd.runUnderlying32 rfl Tryd.sizeOf3 rfl) rfl), nQ rfl (by exact qR (x5 0 rfl BU rfl rfl Tryd.isAgg3) rfl), trivial⟩) fun D l a w ho hcl hav hpre hm hE hk hA hst => ?_
     have hS := (Ss.mk hE hst).env2 (e' := [(30, .int .i64 ((rd Bo Bq).Len_))]) ⟨rfl, trivial⟩
     refine qP rfl <| qO hS rfl Tryd.call35 (jH hG K ((rd Bo Bq).Len_) (hS.st.part 0 [0, 1, 2, 3, 4, 5, 6] (by kernel_rfl)) (qy hM) (fun Bx BJ BK w hM  hst => qM hS.ev hst.appF rfl fun hS => ?_))
     replace hS : Ss _ _ _ H [BV, BR, BQ, BA, BB, BE, BH] F _ _ := hS
     refine qF ?_
     replace hst := hS.st
     obtain ⟨hcl, hmust, hav2, hA⟩ := dn (vals' := [some (q7 Bp 0), some (q7 Bp 0), some (q7 Bp 0), some (q7 Bp 2), some (.agg ⟨[.slice Bs Bn.literals_.lengths_.length Bt, .slice Bu Bn.literals_.codes_.length Bv]⟩), some (q7 BI 1), some (.int .i64 ((rd Bo Bq).Len_)), some (.agg ⟨[.int .i64 Bx, .int .i64 BJ, .int .u32 BK]⟩), none]) 7 [(6, 7), (5, 6)] hA hcl hav hm hpre hk rfl rfl rfl rfl rfl rfl rfl
     clear hm hav
     refine yx hA hst ho hcl hav2 hmust 8 [0, 1, 2, 3, 4] rfl rfl rfl rfl rfl (by exact ⟨nM rfl, nM rfl, nQ rfl (by exact qR (yV rfl) rfl), nQ rfl (by exact qR (xn rfl Tryd.runUnderlying49 rfl Tryd.sizeOf47 rfl) rfl), nQ rfl (by exact qR (vN 1 rfl BO rfl ([.slice Bs Bn.literals_.lengths_.length Bt, .slice Bu Bn.literals_.codes_.length Bv]) rfl rfl Tryd.isAgg47 Tryd.sizeOf47) rfl), trivial⟩) fun D l a w ho hcl hav hpre hm hE hk hA hst => ?_
     have hS := (Ss.mk hE hst).env2 (e' := [(24, q7 Bp 0), (28, .agg ⟨[.slice Bs Bn.literals_.lengths_.length Bt, .slice Bu Bn.literals_.codes_.length Bv]⟩), (31, .agg ⟨[.int .i64 Bx, .int .i64 BJ, .int .u32 BK]⟩)]) ⟨rfl, rfl, rfl, trivial⟩
     refine qP rfl <| qO hS rfl Tryd.call50 (je hG K (qn.mk (qG.mk (qJ.mk Bz) Br) Bn.literals_ Bn.distances_) Bn.literals_ (z4.mk Bx BJ BK) Bp BR BS BT BQ Bs Bt BA Bu Bv BB BC BD BE BF BG BH BO BW BX BY BZ B0 (hS.st.part 6 [1, 2, 3, 4, 5, 6, 0] (by kernel_rfl)) (qy hM) (fun Dm DR DS Db Dh Di w hM DT Dj hst => qM hS.ev hst.appF rfl fun hS => ?_))
     replace hS : Ss _ _ _ H [Di, Dh, BA, BB, BE, BH, BV] F _ _ := hS
     refine qF ?_
     replace hst := hS.st
     obtain ⟨hcl, hmust, hav2, hA⟩ := dn (vals' := [some (q7 Bp 0), some (q7 Bp 0), some (q7 Bp 0), some (q7 Bp 2), some (.agg ⟨[.slice Bs Bn.literals_.lengths_.length Bt, .slice Bu Bn.literals_.codes_.length Bv]⟩), some (q7 BI 1), some (.int .i64 ((rd Bo Bq).Len_)), some (.agg ⟨[.int .i64 Bx, .int .i64 BJ, .int .u32 BK]⟩), some (.tuple ⟨[]⟩)]) 8 [(0, 8), (4, 8), (7, 8), (3, 4), (6, 7), (2, 3), (5, 6), (1, 2)] hA hcl hav hm hpre hk rfl rfl rfl rfl rfl rfl rfl
     clear hm hav
     refine xG hA hst ho hcl hmust [] rfl rfl rfl trivial fun a w hS => ?_
     replace hS := hS.env2 (e' := [(0, q7 Bp 0), (5, q7 BI 0), (6, .slice B8 Bo.length B9), (7, .int .i64 (Bo.length : Int)), (8, .int .i64 Bq)]) ⟨rfl, rfl, rfl, rfl, rfl, trivial⟩
     refine qg <| q8 (vals := [some (q7 Bp 0), some (q7 Bp 0), some (q7 Bp 0), some (q7 Bp 4), some (.agg ⟨[.slice BC Bn.distances_.lengths_.length BD, .slice BF Bn.distances_.codes_.length BG]⟩), some (q7 BI 2), some (.int .i64 ((rd Bo Bq).Dist_)), none, none]) hS z6 rfl ?_
     intro l w ho hcl hA hst
     refine yx hA hst ho hcl zX z5 7 [0, 1, 2, 3, 4, 5, 6] rfl rfl rfl rfl rfl (by exact ⟨nM rfl, nM rfl, nQ rfl (by exact qR (yV rfl) rfl), nQ rfl (by exact qR (xn rfl Tryd.runUnderlying49 rfl Tryd.sizeOf47 rfl) rfl), nQ rfl (by exact qR (vN 0 rfl Dj rfl ([.slice BC Bn.distances_.lengths_.length BD, .slice BF Bn.distances_.codes_.length BG]) rfl rfl Tryd.isAgg47 Tryd.sizeOf47) rfl), nQ rfl (by exact qR (xn rfl Tryd.runUnderlying32 rfl Tryd.sizeOf3 rfl) rfl), nQ rfl (by exact qR (x5 6 rfl BU rfl rfl Tryd.isAgg3) rfl), trivial⟩) fun D l a w ho hcl hav hpre hm hE hk hA hst => ?_
     have hS := (Ss.mk hE hst).env2 (e' := [(39, .int .i64 ((rd Bo Bq).Dist_))]) ⟨rfl, trivial⟩
     refine qP rfl <| qO hS rfl Tryd.call36 (y8 hG K ((rd Bo Bq).Dist_) (hS.st.part 0 [0, 1, 2, 3, 4, 5, 6] (by kernel_rfl)) (qy hM) (fun By BL BM w hM  hst => qM hS.ev hst.appF rfl fun hS => ?_))
     replace hS : Ss _ _ _ H [Di, Dh, BA, BB, BE, BH, BV] F _ _ := hS
     refine qF ?_
     replace hst := hS.st
     obtain ⟨hcl, hmust, hav2, hA⟩ := dn (vals' := [some (q7 Bp 0), some (q7 Bp 0), some (q7 Bp 0), some (q7 Bp 4), some (.agg ⟨[.slice BC Bn.distances_.lengths_.length BD, .slice BF Bn.distances_.codes_.length BG]⟩), some (q7 BI 2), some (.int .i64 ((rd Bo Bq).Dist_)), some (.agg ⟨[.int .i64 By, .int .i64 BL, .int .u32 BM]⟩), none]) 7 [(6, 7), (5, 6)] hA hcl hav hm hpre hk rfl rfl rfl rfl rfl rfl rfl
     clear hm hav
     refine yx hA hst ho hcl hav2 hmust 8 [0, 1, 2, 3, 4] rfl rfl rfl rfl rfl (by exact ⟨nM rfl, nM rfl, nQ rfl (by exact qR (yV rfl) rfl), nQ rfl (by exact qR (xn rfl Tryd.runUnderlying49 rfl Tryd.sizeOf47 rfl) rfl), nQ rfl (by exact qR (vN 0 rfl Dj rfl ([.slice BC Bn.distances_.lengths_.length BD, .slice BF Bn.distances_.codes_.length BG]) rfl rfl Tryd.isAgg47 Tryd.sizeOf47) rfl), trivial⟩) fun D l a w ho hcl hav hpre hm hE hk hA hst => ?_
     have hS := (Ss.mk hE hst).env2 (e' := [(33, q7 Bp 0), (37, .agg ⟨[.slice BC Bn.distances_.lengths_.length BD, .slice BF Bn.distances_.codes_.length BG]⟩), (40, .agg ⟨[.int .i64 By, .int .i64 BL, .int .u32 BM]⟩)]) ⟨rfl, rfl, rfl, trivial⟩
     refine qP rfl <| qO hS rfl Tryd.call50 (jg hG K (qn.mk (qG.mk (qJ.mk Dm) Db) Bn.literals_ Bn.distances_) Bn.distances_ (z4.mk By BL BM) Bp Di DR DS Dh Bs Bt BA Bu Bv BB BC BD BE BF BG BH Dj DT BX BY BZ B0 (hS.st.part 6 [0, 1, 2, 3, 4, 5, 6] (by kernel_rfl)) (qy hM) (fun Dn DU DV Dc Dy Dz w hM DW DX hst => qM hS.ev hst.appF rfl fun hS => ?_))
     replace hS : Ss _ _ _ H [Dz, Dy, BA, BB, BE, BH, BV] F _ _ := hS
     refine qF ?_
     replace hst := hS.st
     obtain ⟨hcl, hmust, hav2, hA⟩ := dn (vals' := [some (q7 Bp 0), some (q7 Bp 0), some (q7 Bp 0), some (q7 Bp 4), some (.agg ⟨[.slice BC Bn.distances_.lengths_.length BD, .slice BF Bn.distances_.codes_.length BG]⟩), some (q7 BI 2), some (.int .i64 ((rd Bo Bq).Dist_)), some (.agg ⟨[.int .i64 By, .int .i64 BL, .int .u32 BM]⟩), some (.tuple ⟨[]⟩)]) 8 [(0, 8), (4, 8), (7, 8), (3, 4), (6, 7), (2, 3), (5, 6), (1, 2)] hA hcl hav hm hpre hk rfl rfl rfl rfl rfl rfl rfl
     clear hm hav
     refine xG hA hst ho hcl hmust [] rfl rfl rfl trivial fun a w hS => ?_
     replace hS := hS.env2 (e' := [(0, q7 Bp 0), (6, .slice B8 Bo.length B9), (7, .int .i64 (Bo.length : Int)), (8, .int .i64 Bq)]) ⟨rfl, rfl, rfl, rfl, trivial⟩
     refine zk (qg ?_)
     refine zv <| sB hS rfl fun hS => sM hS rfl fun hS => q9 <| qg ?_
     exact Df _ _ ⟨Dn, DU, DV, Dc, Dy, Dz, (qk (Bq + (1 : Int))), hS.to [0, 1, 2, 3, 4, 5] (by kernel_rfl) ⟨rfl, rfl, rfl, rfl, trivial⟩, DW, DX, hM⟩
   ·refine wp_exit ?_
    refine qx (qx (qV (qg ?_)))
    exact DG _ _ ⟨Bz, BS, BT, Br, BQ, BR, hS.to [0, 1, 2, 3, 4, 5] (by kernel_rfl) ⟨rfl, trivial⟩, BW, BO, hM⟩
 ·intro a w hI
  obtain ⟨BP, B4, B5, Bw, B6, B7, hS, DK, Dk, hM⟩ := hI
  rw [qS.j2] at hM
  refine zv <| sM hS rfl fun hS => sM hS rfl fun hS => sO hS (yV rfl) rfl fun hS => sO hS (xn rfl Tryd.runUnderlying49 rfl Tryd.sizeOf47 rfl) rfl fun hS => sO hS (vN 0 rfl Dk rfl ([.slice Bs Bn.literals_.lengths_.length Bt, .slice Bu Bn.literals_.codes_.length Bv]) rfl rfl Tryd.isAgg47 Tryd.sizeOf47) rfl fun hS => qO hS rfl Tryd.call41 (xt hG K (qn.mk (qG.mk (qJ.mk BP) Bw) Bn.literals_ Bn.distances_) Bn.literals_ (256 : Int) Bp B7 B4 B5 B6 Bs Bt BA Bu Bv BB BC BD BE BF BG BH Dk DK BX BY BZ B0 (hS.st.part 6 [0, 1, 2, 3, 4, 5] (by kernel_rfl)) (qy hM) (fun Do DY DZ De DA DB w hM D0 D1 hst => qM hS.ev hst.appF rfl fun hS => ?_))
  replace hS : Ss _ _ _ H [DB, DA, BA, BB, BE, BH] F _ _ := hS
  refine q9 ?_
  exact yj (rs := []) hS rfl rfl (hret Do DY DZ De DA DB _ (zj hM) D0 D1 (hS.st.pick [0, 1, 2, 3, 4, 5] (by kernel_rfl)))
theorem xv {H : xl} {F : List qs} {w : World} {R : Ending → World → Prop} {kr : (List UInt8) → Prop} {kp : Value → Prop} (hG : Gl H) (K : Nat) (Bn : qn) (Bu : Nat) (Bo : qs) (Bv : Option Addr) (Bw : Nat) (Bp : qs) (Bx : Option Addr) (By : Nat) (Bq : qs) (Bz : Option Addr) (BA : Nat) (Br : qs) (BB : Option Addr) (BC : Nat) (Bs : qs) (BD : Option Addr) (BE : Nat) (Bt : qs) (BG : x6 Bo Bu ([.int .i64 Bn.Writer_.place_.at_, .slice Bv Bn.Writer_.bytes_.length Bw, .slice Bx Bn.literals_.lengths_.length By, .slice Bz Bn.literals_.codes_.length BA, .slice BB Bn.distances_.lengths_.length BC, .slice BD Bn.distances_.codes_.length BE]) 49) (BH : zC 5 (ci .u8) 1 Bv Bn.Writer_.bytes_ Bw Bp) (BJ : zC 3 (ci .i64) 1 Bx Bn.literals_.lengths_ By Bq) (BK : zC 3 (ci .i64) 1 Bz Bn.literals_.codes_ BA Br) (BL : zC 3 (ci .i64) 1 BB Bn.distances_.lengths_ BC Bs) (BM : zC 3 (ci .i64) 1 BD Bn.distances_.codes_ BE Bt)
    (hS : St w H [Bo, Bp, Bq, Br, Bs, Bt] F) (hm : (zt.m K Bn).wp kr kp)
    (hret : ∀ (BF : List UInt8) (w : World), kr BF → St w H [Bo, Bp, Bq, Br, Bs, Bt] F → R (.returned (yX BF)) w) :
    Calls Tryd.prog 25 ⟨[q7 Bu 0]⟩ w R := by
 refine enter Tryd.func25 rfl Tryd.ntmps25 rfl hS fun a w hS => ?_
 have hM := hm; clear hm
 rw [zt.m] at hM
 refine qu <| sA hS rfl fun hS => qF <| wp_seq <| qu <| sM hS rfl fun hS => sO hS (V5 rfl rfl Tryd.runUnderlying103) rfl fun hS => qF <| VH hS rfl <| wp_skip <| qg <| qu <| sM hS rfl fun hS => sO hS (yV rfl) rfl fun hS => sO hS (xn rfl Tryd.runUnderlying44 rfl Tryd.sizeOf38 rfl) rfl fun hS => sO hS (x5 0 rfl BG rfl rfl Tryd.isAgg38) rfl fun hS => sO hS (KG rfl Tryd.runUnderlying38 Tryd.runUnderlying5 Tryd.runUnderlying9 (BH.rd (i := 1) rfl)) rfl fun hS => zr (v := yX) (x0 := (Bn.Writer_.bytes_.map ZX)) hS (z8 rfl) rfl fun BI a w hz hS => ?_
 have hM := qA hz hM; clear hz
 refine qF <| wp_ret ?_
 exact zJ (rs := [2]) hS rfl rfl (hret BI _ (zj hM) (hS.st.pick [0, 1, 2, 3, 4, 5] (by kernel_rfl)))
theorem jZ {H : xl} {F : List qs} {w : World} {R : Ending → World → Prop} {kr : ((List UInt8) × Int) → Prop} {kp : Value → Prop} (hG : Gl H) (K : Nat) (Bv : List qp) (B3 : Option Addr) (B4 : Nat) (BQ : yM H [] F qp.cells B3 Bv) (BR : Bv.length ≤ B4)
    (hS : St w H [] F) (hm : (xH.m K Bv).wp kr kp)
    (hret : ∀ (BJ : List UInt8) (BK : Int) (w : World), kr (BJ, BK) → St w H [] F → R (.returned (.tuple ⟨[yX BJ, .int .i64 BK]⟩)) w) :
    Calls Tryd.prog 12 ⟨[.slice B3 Bv.length B4]⟩ w R := by
 refine enter Tryd.func12 rfl Tryd.ntmps12 rfl hS fun a w hS => ?_
 have hM := hm; clear hm
 rw [xH.m] at hM
 refine qu <| sA hS rfl fun hS => sA hS rfl fun hS => qF <| wp_seq <| qu <| sM hS rfl fun hS => qO hS rfl Tryd.call21 (vk hG K Bv B3 B4 (BQ.app _) BR (hS.st.part 0 [] (by kernel_rfl)) (qy hM) (fun Dr w hM  hst => qM hS.ev hst.appF rfl fun hS => ?_))
 replace hS : Ss _ _ _ H [] F _ _ := hS
 refine sO hS (un rfl rfl) rfl fun hS => qF <| qC hS rfl hM (fun B9 hM => ?_) (fun B9 hM => ?_)
 ·refine wp_seq ?_
  refine zv <| sA hS rfl fun hS => sA hS rfl fun hS => qF <| wp_ret <| zz ?_
  exact zJ (rs := [2, 3]) hS rfl rfl (hret ([] : List UInt8) (1 : Int) _ (zj hM) (hS.st.pick [] (by kernel_rfl)))
 ·refine wp_skip ?_
  refine qg <| qu <| sO hS (Xe ([.int .i64 (0 : Int), .slice none 0 0, .slice none 0 0, .slice none 0 0, .slice none 0 0, .slice none 0 0]) [(0, 2), (2, 2), (4, 2)] Tryd.zeroValue49 Tryd.runUnderlying49 (by intro w; simp [Tryd.sizeOf44, Tryd.sizeOf47]) rfl rfl) rfl fun hS => bx ([.int .i64 (0 : Int), .slice none 0 0, .slice none 0 0, .slice none 0 0, .slice none 0 0, .slice none 0 0]) hS rfl rfl rfl fun w Da Dl Db hS => ?_
  obtain ⟨Dj, Dc, hS⟩ := hS.nilV 5 (ci .u8) 1
  obtain ⟨B5, Dm, hS⟩ := hS.nilV 3 (ci .i64) 1
  obtain ⟨B6, Dn, hS⟩ := hS.nilV 3 (ci .i64) 1
  obtain ⟨B7, Do, hS⟩ := hS.nilV 3 (ci .i64) 1
  obtain ⟨B8, Dk, hS⟩ := hS.nilV 3 (ci .i64) 1
  refine sA hS rfl fun hS => qF <| qu <| sM hS rfl fun hS => sM hS rfl fun hS => qO hS rfl Tryd.call22 (vt hG K  (hS.st.part 0 [0, 1, 2, 3, 4, 5] (by kernel_rfl)) (qy hM) (fun Bw Bx Bn Br By Bz Bp Bs BB BC Bo Bt BD BE Bq Bu w hM BL BM BN BO hst => qM hS.ev hst.appF rfl fun hS => ?_))
  replace hS : Ss _ _ _ H [Br, Bs, Bt, Bu, B8, B7, B6, B5, Dj, Dl] F _ _ := hS
  refine sM hS rfl fun hS => sO hS (ex rfl rfl) rfl fun hS => sO hS (ex rfl rfl) rfl fun hS => sO hS (yV rfl) rfl fun hS => sO hS (xn rfl Tryd.runUnderlying49 rfl Tryd.sizeOf47 rfl) rfl fun hS => uX 9 ([.slice Bw Bn.length Bx, .slice By Bp.length Bz]) ([.int .i64 (0 : Int), .slice none ([] : List Int).length (0), .slice Bw Bn.length Bx, .slice By Bp.length Bz, .slice none ([] : List Int).length (0), .slice none ([] : List Int).length (0)]) hS rfl rfl Db rfl rfl Tryd.sizeOf47 (by simp [Value.oneCell']) (Nat.le_of_ble_eq_true rfl) rfl fun w Dp BS hS => sO hS (yV rfl) rfl fun hS => sO hS (xn rfl Tryd.runUnderlying49 rfl Tryd.sizeOf47 rfl) rfl fun hS => uX 9 ([.slice BB Bo.length BC, .slice BD Bq.length BE]) ([.int .i64 (0 : Int), .slice none ([] : List Int).length (0), .slice Bw Bn.length Bx, .slice By Bp.length Bz, .slice BB Bo.length BC, .slice BD Bq.length BE]) hS rfl rfl BS rfl rfl Tryd.sizeOf47 (by simp [Value.oneCell']) (Nat.le_of_ble_eq_true rfl) rfl fun w De BT hS => qF <| qu <| sM hS rfl fun hS => sO hS (yV rfl) rfl fun hS => sO hS (xn rfl Tryd.runUnderlying49 rfl Tryd.sizeOf44 rfl) rfl fun hS => qO hS rfl Tryd.call23 (qU hG K (qn.mk (qG.mk (qJ.mk (0 : Int)) ([] : List Int)) (qq.mk Bn Bp) (qq.mk Bo Bq)) (3 : Int) (3 : Int) Da De none (0) Dj Bw Bx Br By Bz Bs BB BC Bt BD BE Bu BT Dc BL BM BN BO (hS.st.part 6 [9, 8, 0, 1, 2, 3, 4, 5, 6, 7] (by kernel_rfl)) (qy hM) (fun Dq BP Df Dg BF BU BV w hM Dh Di hst => qM hS.ev hst.appF rfl fun hS => ?_))
  replace hS : Ss _ _ _ H [BV, BU, Br, Bs, Bt, Bu, B8, B7, B6, B5] F _ _ := hS
  refine qF <| qu <| sM hS rfl fun hS => sM hS rfl fun hS => qO hS rfl Tryd.call24 (yu hG K (qn.mk (qG.mk (qJ.mk BP) BF) (qq.mk Bn Bp) (qq.mk Bo Bq)) Bv Da BV Df Dg BU Bw Bx Br By Bz Bs BB BC Bt BD BE Bu B3 B4 Di Dh BL BM BN BO (BQ.app _) BR (hS.st.part 6 [0, 1, 2, 3, 4, 5, 6, 7, 8, 9] (by kernel_rfl)) (qy hM) (fun BI BW BX BA BG BH w hM BY BZ hst => qM hS.ev hst.appF rfl fun hS => ?_))
  replace hS : Ss _ _ _ H [BH, BG, Br, Bs, Bt, Bu, B8, B7, B6, B5] F _ _ := hS
  refine qF <| qu <| sM hS rfl fun hS => sO hS (yV rfl) rfl fun hS => sO hS (xn rfl Tryd.runUnderlying49 rfl Tryd.sizeOf44 rfl) rfl fun hS => qO hS rfl Tryd.call25 (xv hG K (qn.mk (qG.mk (qJ.mk BI) BA) (qq.mk Bn Bp) (qq.mk Bo Bq)) Da BH BW BX BG Bw Bx Br By Bz Bs BB BC Bt BD BE Bu BZ BY BL BM BN BO (hS.st.part 6 [0, 1, 2, 3, 4, 5, 6, 7, 8, 9] (by kernel_rfl)) (qy hM) (fun B0 w hM  hst => qM hS.ev hst.appF rfl fun hS => ?_))
  replace hS : Ss _ _ _ H [BH, BG, Br, Bs, Bt, Bu, B8, B7, B6, B5] F _ _ := hS
  refine sA hS rfl fun hS => sA hS rfl fun hS => qF <| wp_ret ?_
  exact zJ (rs := [2, 3]) hS rfl rfl (hret B0 (0 : Int) _ (zj hM) (hS.st.pick [] (by kernel_rfl)))
theorem ux {H : xl} {F : List qs} {w : World} {R : Ending → World → Prop} {kr : Bool → Prop} {kp : Value → Prop} (hG : Gl H) (K : Nat) (Bn : Int)
    (hS : St w H [] F) (hm : (yA.m K Bn).wp kr kp)
    (hret : ∀ (Bo : Bool) (w : World), kr Bo → St w H [] F → R (.returned (.bool Bo)) w) :
    Calls Tryd.prog 55 ⟨[.int .i64 Bn]⟩ w R := by
 refine enter Tryd.func55 rfl Tryd.ntmps55 rfl hS fun a w hS => ?_
 have hM := hm; clear hm
 rw [yA.m] at hM
 refine qu <| sA hS rfl fun hS => qF <| qu <| sM hS rfl fun hS => sB hS rfl fun hS => sM hS rfl fun hS => yr 2 false 5 (b := (decide (Bn < (0 : Int)))) (r := (decide (Bn > (1099511627776 : Int)))) hS rfl rfl rfl rfl rfl rfl rfl (fun hb a w hS K hK => ?_) rfl fun a w hS => ?_
 ·refine zF hS rfl rfl rfl hb (mv rfl) rfl fun a w hS => ?_
  refine zF hS rfl rfl rfl hb (yN rfl rfl rfl) rfl fun a w hS => ?_
  exact q9 (hK _ _ (hS.up 2 rfl rfl))
 refine zr (v := Value.bool) (x0 := ((decide (Bn < (0 : Int))) || (decide (Bn > (1099511627776 : Int))))) hS (z8 rfl) rfl fun Bp a w hz hS => ?_
 have hM := qA hz hM; clear hz
 refine qF <| wp_ret ?_
 exact zJ (rs := [2]) hS rfl rfl (hret Bp _ (zj hM) (hS.st.pick [] (by kernel_rfl)))
theorem yq {H : xl} {F : List qs} {w : World} {R : Ending → World → Prop} {kr : Int → Prop} {kp : Value → Prop} (hG : Gl H) (K : Nat) (Bn : List Int) (Bp : Option Addr) (Bq : Nat) (Br : yM H [] F (ci .i64) Bp Bn) (By : Bn.length ≤ Bq)
    (hS : St w H [] F) (hm : (zb.m K Bn).wp kr kp)
    (hret : ∀ (Bt : Int) (w : World), kr Bt → St w H [] F → R (.returned (.int .i64 Bt)) w) :
    Calls Tryd.prog 80 ⟨[.slice Bp Bn.length Bq, xA 55 [] []]⟩ w R := by
 refine enter Tryd.func80 rfl Tryd.ntmps80 rfl hS fun a w hS => ?_
 have hM := hm; clear hm
 rw [zb.m] at hM
 refine qu <| sA hS rfl fun hS => qF <| wp_seq <| qu <| sM hS rfl fun hS => sO hS (xI rfl Tryd.runUnderlying45) rfl fun hS => sM hS rfl fun hS => qF <| z7 <| zd (fun Bu a w => ∃ (Bo : Int), Ss 19 [] [(0, .slice Bp Bn.length Bq), (1, xA 55 [] []), (7, .int .i64 (Bn.length : Int)), (8, .int .i64 Bo)] H [] F a w ∧ (zb.l1 K Bn Bu Bo).wp kr kp) K ?_ ?_ ?_
 ·exact ⟨(0 : Int), hS.to [] (by kernel_rfl) ⟨rfl, rfl, rfl, rfl, trivial⟩, hM⟩
 ·intro a w hI; obtain ⟨_, _, hM⟩ := hI; exact zc hM
 ·intro Bu a w hI Bz Bv
  obtain ⟨Bo, hS, hM⟩ := hI
  rw [zb.l1] at hM
  refine qu <| sB hS rfl fun hS => qF <| wp_seq <| qC hS rfl hM (fun Bw hM => ?_) (fun Bw hM => ?_)
  ·refine wp_skip ?_
   refine qg <| wp_seq <| z7 <| qu <| sM hS rfl fun hS => sA hS rfl fun hS => qF <| qu <| sM hS rfl fun hS => sM hS rfl fun hS => sM hS rfl fun hS => ?_
   obtain ⟨Bs, hM⟩ := qB hM
   refine sO hS (xd rfl rfl Tryd.runUnderlying45 Tryd.sizeOf3 Br.wk (fun _ => rfl) rfl Bs) rfl fun hS => sO hS (x3 rfl Br.wk (fun _ => rfl) Bs rfl Tryd.isAgg3) rfl fun hS => y3 hS rfl rfl Tryd.call55 (ux hG K (rd Bn Bo) (hS.st.part 0 [] (by kernel_rfl)) (qy hM) (fun BA w hM  hst => qM hS.ev hst.appF rfl fun hS => ?_))
   replace hS : Ss _ _ _ H [] F _ _ := hS
   refine qF <| qC hS rfl hM (fun Bx hM => ?_) (fun Bx hM => ?_)
   ·refine wp_seq ?_
    refine zv <| sM hS rfl fun hS => sA hS rfl fun hS => qF <| wp_ret <| yz (zz (zz (yz (zz ?_))))
    exact zJ (rs := [4]) hS rfl rfl (hret Bo _ (zj hM) (hS.st.pick [] (by kernel_rfl)))
   ·refine wp_skip ?_
    refine zk (qg ?_)
    refine zv <| sB hS rfl fun hS => sM hS rfl fun hS => q9 <| qg ?_
    exact Bv _ _ ⟨(qk (Bo + (1 : Int))), hS.to [] (by kernel_rfl) ⟨rfl, rfl, rfl, rfl, trivial⟩, hM⟩
  ·refine wp_exit ?_
   refine qx (qx (qV (qg ?_)))
   refine qu <| sA hS rfl fun hS => qF <| wp_ret ?_
   exact zJ (rs := [4]) hS rfl rfl (hret (-1 : Int) _ (zj hM) (hS.st.pick [] (by kernel_rfl)))
theorem yg {H : xl} {F : List qs} {w : World} {R : Ending → World → Prop} {kr : Bool → Prop} {kp : Value → Prop} (hG : Gl H) (K : Nat) (Bn : List Int) (Bo : Option Addr) (Bp : Nat) (Br : yM H [] F (ci .i64) Bo Bn) (Bs : Bn.length ≤ Bp)
    (hS : St w H [] F) (hm : (zQ.m K Bn).wp kr kp)
    (hret : ∀ (Bq : Bool) (w : World), kr Bq → St w H [] F → R (.returned (.bool Bq)) w) :
    Calls Tryd.prog 54 ⟨[.slice Bo Bn.length Bp, xA 55 [] []]⟩ w R := by
 refine enter Tryd.func54 rfl Tryd.ntmps54 rfl hS fun a w hS => ?_
 have hM := hm; clear hm
 rw [zQ.m] at hM
 refine qu <| sA hS rfl fun hS => qF <| qu <| sM hS rfl fun hS => sM hS rfl fun hS => qO hS rfl Tryd.call80 (yq hG K Bn Bo Bp (Br.app _) Bs (hS.st.part 0 [] (by kernel_rfl)) (qy hM) (fun Bt w hM  hst => qM hS.ev hst.appF rfl fun hS => ?_))
 replace hS : Ss _ _ _ H [] F _ _ := hS
 refine sB hS rfl fun hS => zr (v := Value.bool) (x0 := (decide (Bt ≥ (0 : Int)))) hS (z8 rfl) rfl fun Bu a w hz hS => ?_
 have hM := qA hz hM; clear hz
 refine qF <| wp_ret ?_
 exact zJ (rs := [4]) hS rfl rfl (hret Bu _ (zj hM) (hS.st.pick [] (by kernel_rfl)))
def qf (p : qs) (x : qb) (vs : List Value) : Prop :=
  ∃ (A0 : Option Addr) (c0 : Nat), vs = [.int .i64 x.often_, .slice A0 x.symbols_.length c0] ∧ Pl p (ci .i64) A0 x.symbols_ ∧ x.symbols_.length ≤ c0
theorem qf.mono {p p' : qs} (hs : ∀ q ∈ p, q ∈ p') {x : qb} {vs : List Value} (h : qf p x vs) : qf p' x vs := by
  obtain ⟨A0, c0, h0, h1, h2⟩ := h
  exact ⟨A0, c0, h0, h1.mono hs, h2⟩
theorem jK {H : xl} {F : List qs} {w : World} {R : Ending → World → Prop} {kr : Bool → Prop} {kp : Value → Prop} (hG : Gl H) (K : Nat) (Bn : Int)
    (hS : St w H [] F) (hm : (ya.m K Bn).wp kr kp)
    (hret : ∀ (Bo : Bool) (w : World), kr Bo → St w H [] F → R (.returned (.bool Bo)) w) :
    Calls Tryd.prog 82 ⟨[.int .i64 Bn]⟩ w R := by
 refine enter Tryd.func82 rfl Tryd.ntmps82 rfl hS fun a w hS => ?_
 have hM := hm; clear hm
 rw [ya.m] at hM
 refine qu <| sA hS rfl fun hS => qF <| qu <| sM hS rfl fun hS => sM hS rfl fun hS => sB hS rfl fun hS => zr (v := Value.bool) (x0 := (Bn != Bn)) hS (z8 rfl) rfl fun Bp a w hz hS => ?_
 have hM := qA hz hM; clear hz
 refine qF <| wp_ret ?_
 exact zJ (rs := [2]) hS rfl rfl (hret Bp _ (zj hM) (hS.st.pick [] (by kernel_rfl)))
theorem jb {H : xl} {F : List qs} {w : World} {R : Ending → World → Prop} {kr : Int → Prop} {kp : Value → Prop} (hG : Gl H) (K : Nat) (Bn : Int) (Bo : Int)
    (hS : St w H [] F) (hm : (xx.m K Bn Bo).wp kr kp)
    (hret : ∀ (Bp : Int) (w : World), kr Bp → St w H [] F → R (.returned (.int .i64 Bp)) w) :
    Calls Tryd.prog 58 ⟨[.int .i64 Bn, .int .i64 Bo]⟩ w R := by
 refine enter Tryd.func58 rfl Tryd.ntmps58 rfl hS fun a w hS => ?_
 have hM := hm; clear hm
 rw [xx.m] at hM
 refine qu <| sA hS rfl fun hS => qF <| qu <| sM hS rfl fun hS => qO hS rfl Tryd.call82 (jK hG K Bn (hS.st.part 0 [] (by kernel_rfl)) (qy hM) (fun Bv w hM  hst => qM hS.ev hst.appF rfl fun hS => ?_))
 replace hS : Ss _ _ _ H [] F _ _ := hS
 refine sA hS rfl fun hS => qF <| qu <| sM hS rfl fun hS => qO hS rfl Tryd.call82 (jK hG K Bo (hS.st.part 0 [] (by kernel_rfl)) (qy hM) (fun Bw w hM  hst => qM hS.ev hst.appF rfl fun hS => ?_))
 replace hS : Ss _ _ _ H [] F _ _ := hS
 refine sA hS rfl fun hS => qF <| wp_seq <| qu <| sM hS rfl fun hS => qF <| qC hS rfl hM (fun Bq hM => ?_) (fun Bq hM => ?_)
 ·refine wp_seq ?_
  refine qu <| sM hS rfl fun hS => qF <| qC hS rfl hM (fun Br hM => ?_) (fun Br hM => ?_)
  ·refine wp_seq ?_
   refine zv <| sA hS rfl fun hS => qF <| wp_ret <| zz (zz ?_)
   exact zJ (rs := [4]) hS rfl rfl (hret (0 : Int) _ (zj hM) (hS.st.pick [] (by kernel_rfl)))
  ·refine wp_skip ?_
   refine qg <| qu <| sA hS rfl fun hS => qF <| wp_ret <| zz ?_
   exact zJ (rs := [4]) hS rfl rfl (hret (-1 : Int) _ (zj hM) (hS.st.pick [] (by kernel_rfl)))
 ·refine wp_skip ?_
  refine qg <| wp_seq <| qu <| sM hS rfl fun hS => qF <| qC hS rfl hM (fun Bs hM => ?_) (fun Bs hM => ?_)
  ·refine wp_seq ?_
   refine zv <| sA hS rfl fun hS => qF <| wp_ret <| zz ?_
   exact zJ (rs := [4]) hS rfl rfl (hret (1 : Int) _ (zj hM) (hS.st.pick [] (by kernel_rfl)))
  ·refine wp_skip ?_
   refine qg <| wp_seq <| qu <| sM hS rfl fun hS => sM hS rfl fun hS => sB hS rfl fun hS => qF <| qC hS rfl hM (fun Bt hM => ?_) (fun Bt hM => ?_)
   ·refine wp_seq ?_
    refine zv <| sA hS rfl fun hS => qF <| wp_ret <| zz ?_
    exact zJ (rs := [4]) hS rfl rfl (hret (-1 : Int) _ (zj hM) (hS.st.pick [] (by kernel_rfl)))
   ·refine wp_skip ?_
    refine qg <| wp_seq <| qu <| sM hS rfl fun hS => sM hS rfl fun hS => sB hS rfl fun hS => qF <| qC hS rfl hM (fun Bu hM => ?_) (fun Bu hM => ?_)
    ·refine wp_seq ?_
     refine zv <| sA hS rfl fun hS => qF <| wp_ret <| zz ?_
     exact zJ (rs := [4]) hS rfl rfl (hret (1 : Int) _ (zj hM) (hS.st.pick [] (by kernel_rfl)))
    ·refine wp_skip ?_
     refine qg <| qu <| sA hS rfl fun hS => qF <| wp_ret ?_
     exact zJ (rs := [4]) hS rfl rfl (hret (0 : Int) _ (zj hM) (hS.st.pick [] (by kernel_rfl)))
theorem yf {H : xl} {F : List qs} {w : World} {R : Ending → World → Prop} {kr : Int → Prop} {kp : Value → Prop} (hG : Gl H) (K : Nat) (Bn : qb) (Bo : qb) (Bp : Option Addr) (Bq : Nat) (Br : Option Addr) (Bs : Nat) (Bz : yM H [] F (ci .i64) Bp Bn.symbols_) (BA : Bn.symbols_.length ≤ Bq) (BB : yM H [] F (ci .i64) Br Bo.symbols_) (BC : Bo.symbols_.length ≤ Bs)
    (hS : St w H [] F) (hm : (xq.m K Bn Bo).wp kr kp)
    (hret : ∀ (Bt : Int) (w : World), kr Bt → St w H [] F → R (.returned (.int .i64 Bt)) w) :
    Calls Tryd.prog 57 ⟨[.agg ⟨[.int .i64 Bn.often_, .slice Bp Bn.symbols_.length Bq]⟩, .agg ⟨[.int .i64 Bo.often_, .slice Br Bo.symbols_.length Bs]⟩]⟩ w R := by
 refine enter Tryd.func57 rfl Tryd.ntmps57 rfl hS fun a w hS => ?_
 have hM := hm; clear hm
 rw [xq.m] at hM
 refine qu <| bx ([.int .i64 Bn.often_, .slice Bp Bn.symbols_.length Bq]) hS rfl rfl rfl fun w BD Bw Bu hS => bx ([.int .i64 Bo.often_, .slice Br Bo.symbols_.length Bs]) hS rfl rfl rfl fun w BE Bx Bv hS => sA hS rfl fun hS => qF <| qu <| sO hS (xn rfl Tryd.runUnderlying112 rfl Tryd.sizeOf3 rfl) rfl fun hS => sO hS (x5 1 rfl Bu rfl rfl Tryd.isAgg3) rfl fun hS => sO hS (xn rfl Tryd.runUnderlying112 rfl Tryd.sizeOf3 rfl) rfl fun hS => sO hS (x5 0 rfl Bv rfl rfl Tryd.isAgg3) rfl fun hS => qO hS rfl Tryd.call58 (jb hG K Bn.often_ Bo.often_ (hS.st.part 0 [0, 1] (by kernel_rfl)) (qy hM) (fun By w hM  hst => qM hS.ev hst.appF rfl fun hS => ?_))
 replace hS : Ss _ _ _ H [Bx, Bw] F _ _ := hS
 refine sA hS rfl fun hS => qF <| wp_ret ?_
 exact zJ (rs := [4]) hS rfl rfl (hret By _ (zj hM) (hS.st.pick [] (by kernel_rfl)))
theorem zT {H : xl} {F : List qs} {w : World} {R : Ending → World → Prop} {kr : (List qb) → Prop} {kp : Value → Prop} (hG : Gl H) (K : Nat) (BB : List qb) (Bs : Int) (Bu : Int) (Bw : qs) (Bp : Option Addr) (Br : Nat) (By : List (qY 2)) (BY : qs) (Df : qZ (qf Bw) BB By) (Dg : zC 112 (qY.v (sz := 2)) 2 Bp By Br BY)
    (hS : St w H [Bw, BY] F) (hm : (qd.m K BB Bs Bu).wp kr kp)
    (hret : ∀ (BN : List (qY 2)) (BJ : (List qb)) (De : qs) (w : World), kr BJ → (zC 112 (qY.v (sz := 2)) 2 Bp BN Br De) → (qZ (qf Bw) BJ BN) → (BN.length = By.length) → St w H [Bw, De] F → R (.returned (.tuple ⟨[]⟩)) w) :
    Calls Tryd.prog 99 ⟨[.slice Bp By.length Br, .int .i64 Bs, .int .i64 Bu, xA 57 [] []]⟩ w R := by
 refine enter Tryd.func99 rfl Tryd.ntmps99 rfl hS fun a w hS => ?_
 have hM := hm; clear hm
 rw [qd.m] at hM
 have DI : ∀ q ∈ Bw, q ∈ Bw := fun _ h => h
 have Dh : By.length = By.length := rfl
 refine qu <| sM hS rfl fun hS => sB hS rfl fun hS => zr (v := Value.int .i64) (x0 := (qk (Bs + (1 : Int)))) hS (z8 rfl) rfl fun DE a w hz hS => ?_
 have hM := qA hz hM; clear hz
 refine qF <| z7 <| zd (fun BK a w => ∃ (BA : List (qY 2)) (Bz : (List qb)) (BL : qs) (Bx : Int), Ss 53 [] [(0, .slice Bp BA.length Br), (1, .int .i64 Bs), (2, .int .i64 Bu), (3, xA 57 [] []), (8, .int .i64 Bx)] H [Bw, BL] F a w ∧ (zC 112 (qY.v (sz := 2)) 2 Bp BA Br BL) ∧ (qZ (qf Bw) Bz BA) ∧ (BA.length = By.length) ∧ (qd.l1 K Bs Bu BK Bz Bx).wp kr kp) K ?_ ?_ ?_
 ·exact ⟨By, BB, BY, DE, hS.to [0, 1] (by kernel_rfl) ⟨rfl, rfl, rfl, rfl, rfl, trivial⟩, Dg, Df, Dh, hM⟩
 ·intro a w hI; obtain ⟨_, _, _, _, _, _, _, _, hM⟩ := hI; exact zc hM
 ·intro BK a w hI DJ Di
  obtain ⟨BA, Bz, BL, Bx, hS, BZ, B0, B3, hM⟩ := hI
  rw [qd.l1] at hM
  refine wp_seq <| qu <| sM hS rfl fun hS => sM hS rfl fun hS => sB hS rfl fun hS => qF <| qC hS rfl hM (fun Dj hM => ?_) (fun Dj hM => ?_)
  ·refine wp_skip ?_
   refine qg <| wp_seq <| z7 <| qu <| sM hS rfl fun hS => sA hS rfl fun hS => qF <| z7 <| zd (fun B4 a w => ∃ (Bq : List (qY 2)) (Bn : (List qb)) (BH : qs) (Bo : Int), Ss 53 [] [(0, .slice Bp Bq.length Br), (1, .int .i64 Bs), (2, .int .i64 Bu), (3, xA 57 [] []), (8, .int .i64 Bx), (9, .int .i64 Bo)] H [Bw, BH] F a w ∧ (zC 112 (qY.v (sz := 2)) 2 Bp Bq Br BH) ∧ (qZ (qf Bw) Bn Bq) ∧ (Bq.length = By.length) ∧ (qd.l2 K (qd.l1 K Bs Bu BK) Bs Bx B4 Bn Bo).wp kr kp) K ?_ ?_ ?_
   ·exact ⟨BA, Bz, BL, Bx, hS.to [0, 1] (by kernel_rfl) ⟨rfl, rfl, rfl, rfl, rfl, rfl, trivial⟩, BZ, B0, B3, hM⟩
   ·intro a w hI; obtain ⟨_, _, _, _, _, _, _, _, hM⟩ := hI; exact zc hM
   ·intro B4 a w hI DK Dk
    obtain ⟨Bq, Bn, BH, Bo, hS, Bv, Bt, B5, hM⟩ := hI
    rw [qd.l2] at hM
    refine wp_seq <| qX (fun a w => ∃ (B6 : Bool), Ss 53 [] [(0, .slice Bp Bq.length Br), (1, .int .i64 Bs), (2, .int .i64 Bu), (3, xA 57 [] []), (8, .int .i64 Bx), (9, .int .i64 Bo), (34, .bool B6)] H [Bw, BH] F a w ∧ (qd.j3 K (qd.l1 K Bs Bu BK) (qd.l2 K (qd.l1 K Bs Bu BK) Bs Bx B4) Bx Bn Bo B6).wp kr kp) (fun DL B7 => ?_) ?_
    ·refine Ua (b := (decide (Bo > Bs))) hM (fun BO hM => ?_) (fun BO hM => ?_)
     ·obtain ⟨BP, hM⟩ := qB hM
      obtain ⟨BU, BV, Dl, Dm, Dn⟩ := Bt.get BP
      obtain ⟨BQ, hM⟩ := qB hM
      obtain ⟨BW, BX, Do, Dp, Dq⟩ := Bt.get BQ
      refine q8 (vals := [some (.int .i64 Bo), some (.int .i64 Bs), some (.bool true), some (.bool true), some (xA 57 [] []), some (.slice Bp Bq.length Br), some (.int .i64 Bo), some (zA Bp (Int.toNat Bo * 2)), some (.agg ⟨[.int .i64 ((rd Bn Bo).often_), .slice BU ((rd Bn Bo).symbols_).length BV]⟩), some (.slice Bp Bq.length Br), some (.int .i64 Bo), some (.int .i64 (qk (Bo - (1 : Int)))), some (zA Bp (Int.toNat (qk (Bo - (1 : Int))) * 2)), some (.agg ⟨[.int .i64 ((rd Bn (qk (Bo - (1 : Int)))).often_), .slice BW ((rd Bn (qk (Bo - (1 : Int)))).symbols_).length BX]⟩), none, none, none]) hS z6 rfl ?_
      intro l w ho hcl hA hst
      refine yx hA hst ho hcl zX z5 14 [0, 1, 2, 3, 4, 5, 6, 7, 8, 9, 10, 11, 12, 13] rfl rfl rfl rfl rfl (by exact ⟨nM rfl, nM rfl, nQ rfl (by exact qR (yN rfl rfl rfl) (congrArg Value.bool BO)), nM rfl, nW rfl rfl rfl rfl rfl rfl rfl rfl (by exact qR (mv rfl) rfl), nW rfl rfl rfl rfl rfl rfl rfl rfl (by exact qR (mv rfl) rfl), nW rfl rfl rfl rfl rfl rfl rfl rfl (by exact qR (mv rfl) rfl), nW rfl rfl rfl rfl rfl rfl rfl rfl (by exact qR (xd rfl rfl Tryd.runUnderlying110 Tryd.sizeOf112 (Bv.rd (i := 1) rfl) qY.len rfl (Bt.inb BP)) rfl), nW rfl rfl rfl rfl rfl rfl rfl rfl (by exact qR (qR (xV rfl (Bv.rd (i := 1) rfl) qY.len (Bt.inb BP) Tryd.isAgg112 Tryd.sizeOf112 rfl) (congrArg (fun l => Value.agg ⟨l⟩) Dl)) rfl), nW rfl rfl rfl rfl rfl rfl rfl rfl (by exact qR (mv rfl) rfl), nW rfl rfl rfl rfl rfl rfl rfl rfl (by exact qR (mv rfl) rfl), nW rfl rfl rfl rfl rfl rfl rfl rfl (by exact qR (yN rfl rfl rfl) rfl), nW rfl rfl rfl rfl rfl rfl rfl rfl (by exact qR (xd rfl rfl Tryd.runUnderlying110 Tryd.sizeOf112 (Bv.rd (i := 1) rfl) qY.len rfl (Bt.inb BQ)) rfl), nW rfl rfl rfl rfl rfl rfl rfl rfl (by exact qR (qR (xV rfl (Bv.rd (i := 1) rfl) qY.len (Bt.inb BQ) Tryd.isAgg112 Tryd.sizeOf112 rfl) (congrArg (fun l => Value.agg ⟨l⟩) Do)) rfl), trivial⟩) fun D l a w ho hcl hav hpre hm hE hk hA hst => ?_
      have hS := (Ss.mk hE hst).env2 (e' := [(21, .bool true), (22, xA 57 [] []), (26, .agg ⟨[.int .i64 ((rd Bn Bo).often_), .slice BU ((rd Bn Bo).symbols_).length BV]⟩), (31, .agg ⟨[.int .i64 ((rd Bn (qk (Bo - (1 : Int)))).often_), .slice BW ((rd Bn (qk (Bo - (1 : Int)))).symbols_).length BX]⟩)]) ⟨rfl, rfl, rfl, rfl, trivial⟩
      refine qP rfl <| v2 hS rfl rfl rfl rfl <| y3 hS rfl rfl Tryd.call57 (yf hG K (qb.mk ((rd Bn Bo).often_) ((rd Bn Bo).symbols_)) (qb.mk ((rd Bn (qk (Bo - (1 : Int)))).often_) ((rd Bn (qk (Bo - (1 : Int)))).symbols_)) BU BV BW BX (Dm.rdF (i := 0) rfl) Dn (Dp.rdF (i := 0) rfl) Dq (hS.st.part 0 [0, 1] (by kernel_rfl)) (qy hM) (fun BM w hM  hst => qM hS.ev hst.appF rfl fun hS => ?_))
      replace hS : Ss _ _ _ H [Bw, BH] F _ _ := hS
      refine qF ?_
      replace hst := hS.st
      obtain ⟨hcl, hmust, hav2, hA⟩ := dn (vals' := [some (.int .i64 Bo), some (.int .i64 Bs), some (.bool true), some (.bool true), some (xA 57 [] []), some (.slice Bp Bq.length Br), some (.int .i64 Bo), some (zA Bp (Int.toNat Bo * 2)), some (.agg ⟨[.int .i64 ((rd Bn Bo).often_), .slice BU ((rd Bn Bo).symbols_).length BV]⟩), some (.slice Bp Bq.length Br), some (.int .i64 Bo), some (.int .i64 (qk (Bo - (1 : Int)))), some (zA Bp (Int.toNat (qk (Bo - (1 : Int))) * 2)), some (.agg ⟨[.int .i64 ((rd Bn (qk (Bo - (1 : Int)))).often_), .slice BW ((rd Bn (qk (Bo - (1 : Int)))).symbols_).length BX]⟩), some (.int .i64 BM), some (.bool (decide (BM < (0 : Int)))), some (.bool (decide (BM < (0 : Int))))]) 14 [(3, 14), (4, 14), (8, 14), (13, 14), (2, 3), (7, 8), (12, 13), (0, 2), (1, 2), (5, 7), (6, 7), (9, 12), (11, 12), (10, 11)] hA hcl hav hm hpre hk rfl rfl rfl rfl rfl rfl rfl
      clear hm hav
      refine xG hA hst ho hcl hmust [15, 16] rfl rfl rfl (by exact ⟨nW rfl rfl rfl rfl rfl rfl rfl rfl (by exact qR (yN rfl rfl rfl) rfl), nQ rfl (by exact qR (pk rfl rfl rfl) rfl), trivial⟩) fun a w hS => ?_
      replace hS := hS.env2 (e' := [(0, .slice Bp Bq.length Br), (1, .int .i64 Bs), (2, .int .i64 Bu), (3, xA 57 [] []), (8, .int .i64 Bx), (9, .int .i64 Bo), (34, .bool (decide (BM < (0 : Int))))]) ⟨rfl, rfl, rfl, rfl, rfl, rfl, rfl, trivial⟩
      refine qg ?_
      exact B7 _ _ ⟨(decide (BM < (0 : Int))), hS.to [0, 1] (by kernel_rfl) ⟨rfl, rfl, rfl, rfl, rfl, rfl, rfl, trivial⟩, hM⟩
     ·refine q8 (vals := [some (.int .i64 Bo), some (.int .i64 Bs), some (.bool false), some (.bool false), some (undef), some (undef), some (undef), some (undef), some (undef), some (undef), some (undef), some (undef), some (undef), some (undef), some (undef), some (undef), some (.bool false)]) hS z6 rfl ?_
      intro l w ho hcl hA hst
      refine xG hA hst ho hcl z5 [0, 1, 2, 3, 4, 5, 6, 7, 8, 9, 10, 11, 12, 13, 14, 15, 16] rfl rfl rfl (by exact ⟨nM rfl, nM rfl, nQ rfl (by exact qR (yN rfl rfl rfl) (congrArg Value.bool BO)), nM rfl, nS rfl rfl rfl rfl rfl rfl rfl rfl rfl, nS rfl rfl rfl rfl rfl rfl rfl rfl rfl, nS rfl rfl rfl rfl rfl rfl rfl rfl rfl, nS rfl rfl rfl rfl rfl rfl rfl rfl rfl, nS rfl rfl rfl rfl rfl rfl rfl rfl rfl, nS rfl rfl rfl rfl rfl rfl rfl rfl rfl, nS rfl rfl rfl rfl rfl rfl rfl rfl rfl, nS rfl rfl rfl rfl rfl rfl rfl rfl rfl, nS rfl rfl rfl rfl rfl rfl rfl rfl rfl, nS rfl rfl rfl rfl rfl rfl rfl rfl rfl, nS rfl rfl rfl rfl rfl rfl rfl rfl rfl, nS rfl rfl rfl rfl rfl rfl rfl rfl rfl, nQ rfl (by exact qR (pk rfl rfl rfl) rfl), trivial⟩) fun a w hS => ?_
      replace hS := hS.env2 (e' := [(0, .slice Bp Bq.length Br), (1, .int .i64 Bs), (2, .int .i64 Bu), (3, xA 57 [] []), (8, .int .i64 Bx), (9, .int .i64 Bo), (34, .bool false)]) ⟨rfl, rfl, rfl, rfl, rfl, rfl, rfl, trivial⟩
      refine qg ?_
      exact B7 _ _ ⟨false, hS.to [0, 1] (by kernel_rfl) ⟨rfl, rfl, rfl, rfl, rfl, rfl, rfl, trivial⟩, hM⟩
    ·intro a w hI
     obtain ⟨B6, hS, hM⟩ := hI
     rw [qd.j3] at hM
     refine qC hS rfl hM (fun Dr hM => ?_) (fun Dr hM => ?_)
     ·refine wp_skip ?_
      refine qg <| wp_seq <| z7 ?_
      obtain ⟨BR, hM⟩ := qB hM
      obtain ⟨BC, BD, Dt, Du, Dv⟩ := Bt.get BR
      obtain ⟨BE, hM⟩ := qB hM
      obtain ⟨BF, BG, Dw, Dx, Dy⟩ := Bt.get BE
      refine q8 (vals := [some (.slice Bp Bq.length Br), some (.int .i64 Bo), some (.slice Bp Bq.length Br), some (.int .i64 Bo), some (.int .i64 (qk (Bo - (1 : Int)))), some (.slice Bp Bq.length Br), some (.int .i64 Bo), some (.int .i64 (qk (Bo - (1 : Int)))), some (zA Bp (Int.toNat (qk (Bo - (1 : Int))) * 2)), some (.agg ⟨[.int .i64 ((rd Bn (qk (Bo - (1 : Int)))).often_), .slice BC ((rd Bn (qk (Bo - (1 : Int)))).symbols_).length BD]⟩), some (.slice Bp Bq.length Br), some (.int .i64 Bo), some (zA Bp (Int.toNat Bo * 2)), some (.agg ⟨[.int .i64 ((rd Bn Bo).often_), .slice BF ((rd Bn Bo).symbols_).length BG]⟩), some (zA Bp (Int.toNat Bo * 2)), none, none, none]) hS z6 rfl ?_
      intro l w ho hcl hA hst
      refine yx hA hst ho hcl zX z5 15 [0, 1, 2, 3, 4, 5, 6, 7, 8, 9, 10, 11, 12, 13, 14] rfl rfl rfl rfl rfl (by exact ⟨nM rfl, nM rfl, nM rfl, nM rfl, nB rfl, nM rfl, nM rfl, nB rfl, nQ rfl (by exact qR (xd rfl rfl Tryd.runUnderlying110 Tryd.sizeOf112 (Bv.rd (i := 1) rfl) qY.len rfl (Bt.inb BR)) rfl), nQ rfl (by exact qR (qR (xV rfl (Bv.rd (i := 1) rfl) qY.len (Bt.inb BR) Tryd.isAgg112 Tryd.sizeOf112 rfl) (congrArg (fun l => Value.agg ⟨l⟩) Dt)) rfl), nM rfl, nM rfl, nQ rfl (by exact qR (xd rfl rfl Tryd.runUnderlying110 Tryd.sizeOf112 (Bv.rd (i := 1) rfl) qY.len rfl (Bt.inb BE)) rfl), nQ rfl (by exact qR (qR (xV rfl (Bv.rd (i := 1) rfl) qY.len (Bt.inb BE) Tryd.isAgg112 Tryd.sizeOf112 rfl) (congrArg (fun l => Value.agg ⟨l⟩) Dw)) rfl), nQ rfl (by exact qR (xd rfl rfl Tryd.runUnderlying110 Tryd.sizeOf112 (Bv.rd (i := 1) rfl) qY.len rfl (Bt.inb BE)) rfl), trivial⟩) fun D l a w ho hcl hav hpre hm hE hk hA hst => ?_
      have hS := (Ss.mk hE hst).env2 (e' := [(46, .agg ⟨[.int .i64 ((rd Bn (qk (Bo - (1 : Int)))).often_), .slice BC ((rd Bn (qk (Bo - (1 : Int)))).symbols_).length BD]⟩), (51, zA Bp (Int.toNat Bo * 2))]) ⟨rfl, rfl, trivial⟩
      refine qP rfl <| vE (i := Bo) (sz := 2) 1 (⟨[.int .i64 ((rd Bn (qk (Bo - (1 : Int)))).often_), .slice BC ((rd Bn (qk (Bo - (1 : Int)))).symbols_).length BD], by simp, by simp [Value.oneCell']⟩ : qY 2) hS rfl rfl Bv rfl Tryd.sizeOf112 rfl (Bt.inb BE) fun B8 w DM hz B9 hS => ?_
      obtain ⟨Dz, hzm⟩ := yk (Bn.set (Int.toNat Bo) (qb.mk ((rd Bn (qk (Bo - (1 : Int)))).often_) ((rd Bn (qk (Bo - (1 : Int)))).symbols_)))
      replace hM := qA hzm hM
      have BI := qZ.set (x := (qb.mk ((rd Bn (qk (Bo - (1 : Int)))).often_) ((rd Bn (qk (Bo - (1 : Int)))).symbols_))) (r := (⟨[.int .i64 ((rd Bn (qk (Bo - (1 : Int)))).often_), .slice BC ((rd Bn (qk (Bo - (1 : Int)))).symbols_).length BD], by simp, by simp [Value.oneCell']⟩ : qY 2)) (Int.toNat Bo) Bt (show qf Bw _ _ from ⟨BC, BD, rfl, Du, Dv⟩)
      have BS : B8.length = Bq.length := by rw [hz]; exact List.length_set ..
      rw [← hz, ← hzm] at BI; clear hz hzm
      have DA := Eq.trans BS B5
      refine qF ?_
      replace hst := hS.st
      obtain ⟨Da, hM⟩ := qB hM
      obtain ⟨hcl, hmust, hav2, hA⟩ := QI (vals' := [some (.slice Bp Bq.length Br), some (.int .i64 Bo), some (.slice Bp Bq.length Br), some (.int .i64 Bo), some (.int .i64 (qk (Bo - (1 : Int)))), some (.slice Bp Bq.length Br), some (.int .i64 Bo), some (.int .i64 (qk (Bo - (1 : Int)))), some (zA Bp (Int.toNat (qk (Bo - (1 : Int))) * 2)), some (.agg ⟨[.int .i64 ((rd Bn (qk (Bo - (1 : Int)))).often_), .slice BC ((rd Bn (qk (Bo - (1 : Int)))).symbols_).length BD]⟩), some (.slice Bp Bq.length Br), some (.int .i64 Bo), some (zA Bp (Int.toNat Bo * 2)), some (.agg ⟨[.int .i64 ((rd Bn Bo).often_), .slice BF ((rd Bn Bo).symbols_).length BG]⟩), some (zA Bp (Int.toNat Bo * 2)), some undef, some (zA Bp (Int.toNat (qk (Bo - (1 : Int))) * 2)), none]) 15 [(0, 15), (1, 15), (5, 15), (6, 15), (7, 15), (8, 15), (9, 15), (13, 15), (14, 15), (12, 13), (10, 12), (11, 12)] hA hcl hav hm hpre rfl rfl rfl rfl rfl
      clear hm hav
      refine yx hA hst ho hcl hav2 hmust 17 [2, 3, 4, 16] rfl rfl rfl rfl rfl (by exact ⟨nM rfl, nM rfl, nB rfl, nQ rfl (by exact qR (xd (Zi BS rfl) rfl Tryd.runUnderlying110 Tryd.sizeOf112 (B9.rd (i := 1) rfl) qY.len rfl (BI.inb Da)) rfl), trivial⟩) fun D l a w ho hcl hav hpre hm hE hk hA hst => ?_
      have hS := (Ss.mk hE hst).env2 (e' := [(50, .agg ⟨[.int .i64 ((rd Bn Bo).often_), .slice BF ((rd Bn Bo).symbols_).length BG]⟩), (52, zA Bp (Int.toNat (qk (Bo - (1 : Int))) * 2))]) ⟨rfl, rfl, trivial⟩
      refine qP rfl <| vE (i := (qk (Bo - (1 : Int)))) (sz := 2) 1 (⟨[.int .i64 ((rd Bn Bo).often_), .slice BF ((rd Bn Bo).symbols_).length BG], by simp, by simp [Value.oneCell']⟩ : qY 2) hS rfl rfl B9 rfl Tryd.sizeOf112 rfl (BI.inb Da) fun BT w DF hz DB hS => ?_
      obtain ⟨DC, hzm⟩ := yk (Dz.set (Int.toNat (qk (Bo - (1 : Int)))) (qb.mk ((rd Bn Bo).often_) ((rd Bn Bo).symbols_)))
      replace hM := qA hzm hM
      have Db := qZ.set (x := (qb.mk ((rd Bn Bo).often_) ((rd Bn Bo).symbols_))) (r := (⟨[.int .i64 ((rd Bn Bo).often_), .slice BF ((rd Bn Bo).symbols_).length BG], by simp, by simp [Value.oneCell']⟩ : qY 2)) (Int.toNat (qk (Bo - (1 : Int)))) BI (show qf Bw _ _ from ⟨BF, BG, rfl, Dx, Dy⟩)
      have Dc : BT.length = B8.length := by rw [hz]; exact List.length_set ..
      rw [← hz, ← hzm] at Db; clear hz hzm
      have DD := Eq.trans Dc DA
      refine qF ?_
      replace hst := hS.st
      obtain ⟨hcl, hmust, hav2, hA⟩ := QI (vals' := [some (.slice Bp Bq.length Br), some (.int .i64 Bo), some (.slice Bp Bq.length Br), some (.int .i64 Bo), some (.int .i64 (qk (Bo - (1 : Int)))), some (.slice Bp Bq.length Br), some (.int .i64 Bo), some (.int .i64 (qk (Bo - (1 : Int)))), some (zA Bp (Int.toNat (qk (Bo - (1 : Int))) * 2)), some (.agg ⟨[.int .i64 ((rd Bn (qk (Bo - (1 : Int)))).often_), .slice BC ((rd Bn (qk (Bo - (1 : Int)))).symbols_).length BD]⟩), some (.slice Bp Bq.length Br), some (.int .i64 Bo), some (zA Bp (Int.toNat Bo * 2)), some (.agg ⟨[.int .i64 ((rd Bn Bo).often_), .slice BF ((rd Bn Bo).symbols_).length BG]⟩), some (zA Bp (Int.toNat Bo * 2)), some undef, some (zA Bp (Int.toNat (qk (Bo - (1 : Int))) * 2)), some undef]) 17 [(0, 17), (1, 17), (2, 17), (3, 17), (4, 17), (5, 17), (6, 17), (7, 17), (8, 17), (9, 17), (10, 17), (11, 17), (12, 17), (13, 17), (14, 17), (15, 17), (16, 17)] hA hcl hav hm hpre rfl rfl rfl rfl rfl
      clear hm hav
      refine xG hA hst ho hcl hmust [] rfl rfl rfl trivial fun a w hS => ?_
      replace hS := hS.env2 (e' := [(0, .slice Bp BT.length Br), (1, .int .i64 Bs), (2, .int .i64 Bu), (3, xA 57 [] []), (8, .int .i64 Bx), (9, .int .i64 Bo)]) ⟨(ZE (u := .slice Bp Bq.length Br) rfl (by rw [Dc, BS])), rfl, rfl, rfl, rfl, rfl, trivial⟩
      refine zk (qg ?_)
      refine zv <| sM hS rfl fun hS => sB hS rfl fun hS => zr (v := Value.int .i64) (x0 := (qk (Bo - (1 : Int)))) hS (z8 rfl) rfl fun DG a w hz hS => ?_
      have hM := qA hz hM; clear hz
      refine q9 <| qg ?_
      exact Dk _ _ ⟨BT, DC, DF, DG, hS.to [0, 1] (by kernel_rfl) ⟨rfl, rfl, rfl, rfl, rfl, rfl, trivial⟩, DB, Db, DD, hM⟩
     ·refine wp_exit ?_
      refine qx (qx (qV (zk (qg ?_))))
      refine zv <| sM hS rfl fun hS => sB hS rfl fun hS => zr (v := Value.int .i64) (x0 := (qk (Bx + (1 : Int)))) hS (z8 rfl) rfl fun DH a w hz hS => ?_
      have hM := qA hz hM; clear hz
      refine q9 <| qg ?_
      exact Di _ _ ⟨Bq, Bn, BH, DH, hS.to [0, 1] (by kernel_rfl) ⟨rfl, rfl, rfl, rfl, rfl, trivial⟩, Bv, Bt, B5, hM⟩
  ·refine wp_exit ?_
   refine qx (qx (qV ?_))
   exact yj (rs := []) hS rfl rfl (hret BA Bz BL _ (zj hM) BZ B0 B3 (hS.st.pick [0, 1] (by kernel_rfl)))
theorem zI {H : xl} {F : List qs} {w : World} {R : Ending → World → Prop} {kr : (List qb) → Prop} {kp : Value → Prop} (hG : Gl H) (K : Nat) (By : List qb) (Bp : Int) (Bq : Int) (Bz : Int) (Bw : qs) (Br : Option Addr) (Bt : Nat) (Bv : List (qY 2)) (BM : qs) (BV : qZ (qf Bw) By Bv) (BW : zC 112 (qY.v (sz := 2)) 2 Br Bv Bt BM)
    (hS : St w H [Bw, BM] F) (hm : (qw.m K By Bp Bq Bz).wp kr kp)
    (hret : ∀ (BH : List (qY 2)) (BG : (List qb)) (BT : qs) (w : World), kr BG → (zC 112 (qY.v (sz := 2)) 2 Br BH Bt BT) → (qZ (qf Bw) BG BH) → (BH.length = Bv.length) → St w H [Bw, BT] F → R (.returned (.tuple ⟨[]⟩)) w) :
    Calls Tryd.prog 109 ⟨[.slice Br Bv.length Bt, .int .i64 Bp, .int .i64 Bq, .int .i64 Bz, xA 57 [] []]⟩ w R := by
 refine enter Tryd.func109 rfl Tryd.ntmps109 rfl hS fun a w hS => ?_
 have hM := hm; clear hm
 rw [qw.m] at hM
 have Dg : ∀ q ∈ Bw, q ∈ Bw := fun _ h => h
 have BX : Bv.length = Bv.length := rfl
 refine qu <| sA hS rfl fun hS => qF <| z7 <| zd (fun BU a w => ∃ (Bs : List (qY 2)) (Bo : (List qb)) (BL : qs) (Bn : Int), Ss 38 [] [(0, .slice Br Bs.length Bt), (1, .int .i64 Bp), (2, .int .i64 Bq), (3, .int .i64 Bz), (10, .int .i64 Bn)] H [Bw, BL] F a w ∧ (zC 112 (qY.v (sz := 2)) 2 Br Bs Bt BL) ∧ (qZ (qf Bw) Bo Bs) ∧ (Bs.length = Bv.length) ∧ (qw.l1 K Bp Bq Bz BU Bo Bn).wp kr kp) K ?_ ?_ ?_
 ·exact ⟨Bv, By, BM, (0 : Int), hS.to [0, 1] (by kernel_rfl) ⟨rfl, rfl, rfl, rfl, rfl, trivial⟩, BW, BV, BX, hM⟩
 ·intro a w hI; obtain ⟨_, _, _, _, _, _, _, _, hM⟩ := hI; exact zc hM
 ·intro BU a w hI Dh BY
  obtain ⟨Bs, Bo, BL, Bn, hS, Bx, Bu, BN, hM⟩ := hI
  rw [qw.l1] at hM
  refine wp_seq <| qu <| sM hS rfl fun hS => sM hS rfl fun hS => sB hS rfl fun hS => qF <| qC hS rfl hM (fun BZ hM => ?_) (fun BZ hM => ?_)
  ·refine wp_skip ?_
   refine qg <| wp_seq <| z7 ?_
   obtain ⟨BI, hM⟩ := qB hM
   obtain ⟨BA, BB, B0, B3, B4⟩ := Bu.get BI
   obtain ⟨BC, hM⟩ := qB hM
   obtain ⟨BD, BE, B5, B6, B7⟩ := Bu.get BC
   refine q8 (vals := [some (.slice Br Bs.length Bt), some (.int .i64 Bp), some (.int .i64 Bn), some (.int .i64 (qk (Bp + Bn))), some (.slice Br Bs.length Bt), some (.int .i64 Bq), some (.int .i64 Bn), some (.int .i64 (qk (Bq + Bn))), some (.slice Br Bs.length Bt), some (.int .i64 Bq), some (.int .i64 Bn), some (.int .i64 (qk (Bq + Bn))), some (zA Br (Int.toNat (qk (Bq + Bn)) * 2)), some (.agg ⟨[.int .i64 ((rd Bo (qk (Bq + Bn))).often_), .slice BA ((rd Bo (qk (Bq + Bn))).symbols_).length BB]⟩), some (.slice Br Bs.length Bt), some (.int .i64 Bp), some (.int .i64 Bn), some (.int .i64 (qk (Bp + Bn))), some (zA Br (Int.toNat (qk (Bp + Bn)) * 2)), some (.agg ⟨[.int .i64 ((rd Bo (qk (Bp + Bn))).often_), .slice BD ((rd Bo (qk (Bp + Bn))).symbols_).length BE]⟩), some (zA Br (Int.toNat (qk (Bp + Bn)) * 2)), none, none, none]) hS z6 rfl ?_
   intro l w ho hcl hA hst
   refine yx hA hst ho hcl zX z5 21 [0, 1, 2, 3, 4, 5, 6, 7, 8, 9, 10, 11, 12, 13, 14, 15, 16, 17, 18, 19, 20] rfl rfl rfl rfl rfl (by exact ⟨nM rfl, nM rfl, nM rfl, nB rfl, nM rfl, nM rfl, nM rfl, nB rfl, nM rfl, nM rfl, nM rfl, nB rfl, nQ rfl (by exact qR (xd rfl rfl Tryd.runUnderlying110 Tryd.sizeOf112 (Bx.rd (i := 1) rfl) qY.len rfl (Bu.inb BI)) rfl), nQ rfl (by exact qR (qR (xV rfl (Bx.rd (i := 1) rfl) qY.len (Bu.inb BI) Tryd.isAgg112 Tryd.sizeOf112 rfl) (congrArg (fun l => Value.agg ⟨l⟩) B0)) rfl), nM rfl, nM rfl, nM rfl, nB rfl, nQ rfl (by exact qR (xd rfl rfl Tryd.runUnderlying110 Tryd.sizeOf112 (Bx.rd (i := 1) rfl) qY.len rfl (Bu.inb BC)) rfl), nQ rfl (by exact qR (qR (xV rfl (Bx.rd (i := 1) rfl) qY.len (Bu.inb BC) Tryd.isAgg112 Tryd.sizeOf112 rfl) (congrArg (fun l => Value.agg ⟨l⟩) B5)) rfl), nQ rfl (by exact qR (xd rfl rfl Tryd.runUnderlying110 Tryd.sizeOf112 (Bx.rd (i := 1) rfl) qY.len rfl (Bu.inb BC)) rfl), trivial⟩) fun D l a w ho hcl hav hpre hm hE hk hA hst => ?_
   have hS := (Ss.mk hE hst).env2 (e' := [(29, .agg ⟨[.int .i64 ((rd Bo (qk (Bq + Bn))).often_), .slice BA ((rd Bo (qk (Bq + Bn))).symbols_).length BB]⟩), (36, zA Br (Int.toNat (qk (Bp + Bn)) * 2))]) ⟨rfl, rfl, trivial⟩
   refine qP rfl <| vE (i := (qk (Bp + Bn))) (sz := 2) 1 (⟨[.int .i64 ((rd Bo (qk (Bq + Bn))).often_), .slice BA ((rd Bo (qk (Bq + Bn))).symbols_).length BB], by simp, by simp [Value.oneCell']⟩ : qY 2) hS rfl rfl Bx rfl Tryd.sizeOf112 rfl (Bu.inb BC) fun BO w Di hz BP hS => ?_
   obtain ⟨B8, hzm⟩ := yk (Bo.set (Int.toNat (qk (Bp + Bn))) (qb.mk ((rd Bo (qk (Bq + Bn))).often_) ((rd Bo (qk (Bq + Bn))).symbols_)))
   replace hM := qA hzm hM
   have BF := qZ.set (x := (qb.mk ((rd Bo (qk (Bq + Bn))).often_) ((rd Bo (qk (Bq + Bn))).symbols_))) (r := (⟨[.int .i64 ((rd Bo (qk (Bq + Bn))).often_), .slice BA ((rd Bo (qk (Bq + Bn))).symbols_).length BB], by simp, by simp [Value.oneCell']⟩ : qY 2)) (Int.toNat (qk (Bp + Bn))) Bu (show qf Bw _ _ from ⟨BA, BB, rfl, B3, B4⟩)
   have BJ : BO.length = Bs.length := by rw [hz]; exact List.length_set ..
   rw [← hz, ← hzm] at BF; clear hz hzm
   have B9 := Eq.trans BJ BN
   refine qF ?_
   replace hst := hS.st
   obtain ⟨BQ, hM⟩ := qB hM
   obtain ⟨hcl, hmust, hav2, hA⟩ := QI (vals' := [some (.slice Br Bs.length Bt), some (.int .i64 Bp), some (.int .i64 Bn), some (.int .i64 (qk (Bp + Bn))), some (.slice Br Bs.length Bt), some (.int .i64 Bq), some (.int .i64 Bn), some (.int .i64 (qk (Bq + Bn))), some (.slice Br Bs.length Bt), some (.int .i64 Bq), some (.int .i64 Bn), some (.int .i64 (qk (Bq + Bn))), some (zA Br (Int.toNat (qk (Bq + Bn)) * 2)), some (.agg ⟨[.int .i64 ((rd Bo (qk (Bq + Bn))).often_), .slice BA ((rd Bo (qk (Bq + Bn))).symbols_).length BB]⟩), some (.slice Br Bs.length Bt), some (.int .i64 Bp), some (.int .i64 Bn), some (.int .i64 (qk (Bp + Bn))), some (zA Br (Int.toNat (qk (Bp + Bn)) * 2)), some (.agg ⟨[.int .i64 ((rd Bo (qk (Bp + Bn))).often_), .slice BD ((rd Bo (qk (Bp + Bn))).symbols_).length BE]⟩), some (zA Br (Int.toNat (qk (Bp + Bn)) * 2)), some undef, some (zA Br (Int.toNat (qk (Bq + Bn)) * 2)), none]) 21 [(0, 21), (1, 21), (2, 21), (3, 21), (8, 21), (9, 21), (10, 21), (11, 21), (12, 21), (13, 21), (19, 21), (20, 21), (18, 19), (14, 18), (17, 18), (15, 17), (16, 17)] hA hcl hav hm hpre rfl rfl rfl rfl rfl
   clear hm hav
   refine yx hA hst ho hcl hav2 hmust 23 [4, 5, 6, 7, 22] rfl rfl rfl rfl rfl (by exact ⟨nM rfl, nM rfl, nM rfl, nB rfl, nQ rfl (by exact qR (xd (Zi BJ rfl) rfl Tryd.runUnderlying110 Tryd.sizeOf112 (BP.rd (i := 1) rfl) qY.len rfl (BF.inb BQ)) rfl), trivial⟩) fun D l a w ho hcl hav hpre hm hE hk hA hst => ?_
   have hS := (Ss.mk hE hst).env2 (e' := [(35, .agg ⟨[.int .i64 ((rd Bo (qk (Bp + Bn))).often_), .slice BD ((rd Bo (qk (Bp + Bn))).symbols_).length BE]⟩), (37, zA Br (Int.toNat (qk (Bq + Bn)) * 2))]) ⟨rfl, rfl, trivial⟩
   refine qP rfl <| vE (i := (qk (Bq + Bn))) (sz := 2) 1 (⟨[.int .i64 ((rd Bo (qk (Bp + Bn))).often_), .slice BD ((rd Bo (qk (Bp + Bn))).symbols_).length BE], by simp, by simp [Value.oneCell']⟩ : qY 2) hS rfl rfl BP rfl Tryd.sizeOf112 rfl (BF.inb BQ) fun BK w De hz Da hS => ?_
   obtain ⟨Db, hzm⟩ := yk (B8.set (Int.toNat (qk (Bq + Bn))) (qb.mk ((rd Bo (qk (Bp + Bn))).often_) ((rd Bo (qk (Bp + Bn))).symbols_)))
   replace hM := qA hzm hM
   have BR := qZ.set (x := (qb.mk ((rd Bo (qk (Bp + Bn))).often_) ((rd Bo (qk (Bp + Bn))).symbols_))) (r := (⟨[.int .i64 ((rd Bo (qk (Bp + Bn))).often_), .slice BD ((rd Bo (qk (Bp + Bn))).symbols_).length BE], by simp, by simp [Value.oneCell']⟩ : qY 2)) (Int.toNat (qk (Bq + Bn))) BF (show qf Bw _ _ from ⟨BD, BE, rfl, B6, B7⟩)
   have BS : BK.length = BO.length := by rw [hz]; exact List.length_set ..
   rw [← hz, ← hzm] at BR; clear hz hzm
   have Dc := Eq.trans BS B9
   refine qF ?_
   replace hst := hS.st
   obtain ⟨hcl, hmust, hav2, hA⟩ := QI (vals' := [some (.slice Br Bs.length Bt), some (.int .i64 Bp), some (.int .i64 Bn), some (.int .i64 (qk (Bp + Bn))), some (.slice Br Bs.length Bt), some (.int .i64 Bq), some (.int .i64 Bn), some (.int .i64 (qk (Bq + Bn))), some (.slice Br Bs.length Bt), some (.int .i64 Bq), some (.int .i64 Bn), some (.int .i64 (qk (Bq + Bn))), some (zA Br (Int.toNat (qk (Bq + Bn)) * 2)), some (.agg ⟨[.int .i64 ((rd Bo (qk (Bq + Bn))).often_), .slice BA ((rd Bo (qk (Bq + Bn))).symbols_).length BB]⟩), some (.slice Br Bs.length Bt), some (.int .i64 Bp), some (.int .i64 Bn), some (.int .i64 (qk (Bp + Bn))), some (zA Br (Int.toNat (qk (Bp + Bn)) * 2)), some (.agg ⟨[.int .i64 ((rd Bo (qk (Bp + Bn))).often_), .slice BD ((rd Bo (qk (Bp + Bn))).symbols_).length BE]⟩), some (zA Br (Int.toNat (qk (Bp + Bn)) * 2)), some undef, some (zA Br (Int.toNat (qk (Bq + Bn)) * 2)), some undef]) 23 [(0, 23), (1, 23), (2, 23), (3, 23), (4, 23), (5, 23), (6, 23), (7, 23), (8, 23), (9, 23), (10, 23), (11, 23), (12, 23), (13, 23), (14, 23), (15, 23), (16, 23), (17, 23), (18, 23), (19, 23), (20, 23), (21, 23), (22, 23)] hA hcl hav hm hpre rfl rfl rfl rfl rfl
   clear hm hav
   refine xG hA hst ho hcl hmust [] rfl rfl rfl trivial fun a w hS => ?_
   replace hS := hS.env2 (e' := [(0, .slice Br BK.length Bt), (1, .int .i64 Bp), (2, .int .i64 Bq), (3, .int .i64 Bz), (10, .int .i64 Bn)]) ⟨(ZE (u := .slice Br Bs.length Bt) rfl (by rw [BS, BJ])), rfl, rfl, rfl, rfl, trivial⟩
   refine zk (qg ?_)
   refine zv <| sM hS rfl fun hS => sB hS rfl fun hS => zr (v := Value.int .i64) (x0 := (qk (Bn + (1 : Int)))) hS (z8 rfl) rfl fun Df a w hz hS => ?_
   have hM := qA hz hM; clear hz
   refine q9 <| qg ?_
   exact BY _ _ ⟨BK, Db, De, Df, hS.to [0, 1] (by kernel_rfl) ⟨rfl, rfl, rfl, rfl, rfl, trivial⟩, Da, BR, Dc, hM⟩
  ·refine wp_exit ?_
   refine qx (qx (qV ?_))
   exact yj (rs := []) hS rfl rfl (hret Bs Bo BL _ (zj hM) Bx Bu BN (hS.st.pick [0, 1] (by kernel_rfl)))
theorem xM {H : xl} {F : List qs} {w : World} {R : Ending → World → Prop} {kr : (List qb) → Prop} {kp : Value → Prop} (hG : Gl H) (K : Nat) (By : List qb) (BC : Int) (Br : Int) (BD : Int) (Bq : qs) (Bn : Option Addr) (Bo : Nat) (Bt : List (qY 2)) (BM : qs) (BZ : qZ (qf Bq) By Bt) (B0 : zC 112 (qY.v (sz := 2)) 2 Bn Bt Bo BM)
    (hS : St w H [Bq, BM] F) (hm : (qr.m K By BC Br BD).wp kr kp)
    (hret : ∀ (BE : List (qY 2)) (BA : (List qb)) (BU : qs) (w : World), kr BA → (zC 112 (qY.v (sz := 2)) 2 Bn BE Bo BU) → (qZ (qf Bq) BA BE) → (BE.length = Bt.length) → St w H [Bq, BU] F → R (.returned (.tuple ⟨[]⟩)) w) :
    Calls Tryd.prog 108 ⟨[.slice Bn Bt.length Bo, .int .i64 BC, .int .i64 Br, .int .i64 BD, xA 57 [] []]⟩ w R := by
 refine enter Tryd.func108 rfl Tryd.ntmps108 rfl hS fun a w hS => ?_
 have hM := hm; clear hm
 rw [qr.m] at hM
 have Do : ∀ q ∈ Bq, q ∈ Bq := fun _ h => h
 have B3 : Bt.length = Bt.length := rfl
 refine qu <| sM hS rfl fun hS => sM hS rfl fun hS => sB hS rfl fun hS => zr (v := Value.int .i64) (x0 := (qk (Br - BC))) hS (z8 rfl) rfl fun De a w hz hS => ?_
 have hM := qA hz hM; clear hz
 refine qF <| qu <| sM hS rfl fun hS => sM hS rfl fun hS => sB hS rfl fun hS => zr (v := Value.int .i64) (x0 := (qk (BD - Br))) hS (z8 rfl) rfl fun Df a w hz hS => ?_
 have hM := qA hz hM; clear hz
 refine qF <| qX (fun a w => ∃ (Bu : List (qY 2)) (Bw : (List qb)) (BL : qs) (BB : Int), Ss 58 [] [(0, .slice Bn Bu.length Bo), (2, .int .i64 Br), (4, xA 57 [] []), (10, .int .i64 BB)] H [Bq, BL] F a w ∧ (zC 112 (qY.v (sz := 2)) 2 Bn Bu Bo BL) ∧ (qZ (qf Bq) Bw Bu) ∧ (Bu.length = Bt.length) ∧ (qr.j2 K Br Bw BB).wp kr kp) (fun Dp B4 => ?_) ?_
 ·refine z7 ?_
  refine zd (fun BV a w => ∃ (Bp : List (qY 2)) (Bs : (List qb)) (Bz : qs) (Bv : Int) (Bx : Int), Ss 58 [] [(0, .slice Bn Bp.length Bo), (2, .int .i64 Br), (4, xA 57 [] []), (10, .int .i64 Bv), (11, .int .i64 Bx)] H [Bq, Bz] F a w ∧ (zC 112 (qY.v (sz := 2)) 2 Bn Bp Bo Bz) ∧ (qZ (qf Bq) Bs Bp) ∧ (Bp.length = Bt.length) ∧ (qr.l1 K Br BV Bs Bv Bx).wp kr kp) K ?_ ?_ ?_
  ·exact ⟨Bt, By, BM, De, Df, hS.to [0, 1] (by kernel_rfl) ⟨rfl, rfl, rfl, rfl, rfl, trivial⟩, B0, BZ, B3, hM⟩
  ·intro a w hI; obtain ⟨_, _, _, _, _, _, _, _, _, hM⟩ := hI; exact zc hM
  ·intro BV a w hI Dq BN
   obtain ⟨Bp, Bs, Bz, Bv, Bx, hS, BF, BG, BH, hM⟩ := hI
   rw [qr.l1] at hM
   refine wp_seq <| qu <| sM hS rfl fun hS => sM hS rfl fun hS => sB hS rfl fun hS => qF <| qC hS rfl hM (fun B5 hM => ?_) (fun B5 hM => ?_)
   ·refine wp_skip ?_
    refine qg <| z7 <| qu <| sM hS rfl fun hS => sM hS rfl fun hS => sB hS rfl fun hS => qF <| qC hS rfl hM (fun B6 hM => ?_) (fun B6 hM => ?_)
    ·refine wp_seq ?_
     refine zv <| sM hS rfl fun hS => sM hS rfl fun hS => sM hS rfl fun hS => sB hS rfl fun hS => sM hS rfl fun hS => sM hS rfl fun hS => sM hS rfl fun hS => qO hS rfl Tryd.call109 (zI hG K Bs (qk (Br - Bv)) Br Bx Bq Bn Bo Bp Bz BG BF (hS.st.part 2 [0, 1] (by kernel_rfl)) (qy hM) (fun BI BO BW w hM Dg Dh BP hst => qM hS.ev hst.appF rfl fun hS => ?_))
     replace hS : Ss _ _ _ H [Bq, BW] F _ _ := hS
     have B7 := Eq.trans BP BH
     replace hS := hS.re 0 (u := .slice Bn Bp.length Bo) (v := .slice Bn BI.length Bo) rfl (by rw [BP])
     replace hS := hS.re 24 (u := .slice Bn Bp.length Bo) (v := .slice Bn BI.length Bo) rfl (by rw [BP])
     refine qF <| zv <| sM hS rfl fun hS => sM hS rfl fun hS => sB hS rfl fun hS => zr (v := Value.int .i64) (x0 := (qk (Bv - Bx))) hS (z8 rfl) rfl fun Di a w hz hS => ?_
     have hM := qA hz hM; clear hz
     refine q9 <| zk (qg ?_)
     exact BN _ _ ⟨BI, BO, BW, Di, Bx, hS.to [0, 1] (by kernel_rfl) ⟨rfl, rfl, rfl, rfl, rfl, trivial⟩, Dg, Dh, B7, hM⟩
    ·refine wp_seq ?_
     refine zv <| sM hS rfl fun hS => sM hS rfl fun hS => sM hS rfl fun hS => sB hS rfl fun hS => sM hS rfl fun hS => sM hS rfl fun hS => sB hS rfl fun hS => sM hS rfl fun hS => sB hS rfl fun hS => sM hS rfl fun hS => sM hS rfl fun hS => qO hS rfl Tryd.call109 (zI hG K Bs (qk (Br - Bv)) (qk ((qk (Br + Bx)) - Bv)) Bv Bq Bn Bo Bp Bz BG BF (hS.st.part 2 [0, 1] (by kernel_rfl)) (qy hM) (fun BJ BQ BX w hM Dj Dk BR hst => qM hS.ev hst.appF rfl fun hS => ?_))
     replace hS : Ss _ _ _ H [Bq, BX] F _ _ := hS
     have B8 := Eq.trans BR BH
     replace hS := hS.re 0 (u := .slice Bn Bp.length Bo) (v := .slice Bn BJ.length Bo) rfl (by rw [BR])
     replace hS := hS.re 35 (u := .slice Bn Bp.length Bo) (v := .slice Bn BJ.length Bo) rfl (by rw [BR])
     refine qF <| zv <| sM hS rfl fun hS => sM hS rfl fun hS => sB hS rfl fun hS => zr (v := Value.int .i64) (x0 := (qk (Bx - Bv))) hS (z8 rfl) rfl fun Dl a w hz hS => ?_
     have hM := qA hz hM; clear hz
     refine q9 <| zk (qg ?_)
     exact BN _ _ ⟨BJ, BQ, BX, Bv, Dl, hS.to [0, 1] (by kernel_rfl) ⟨rfl, rfl, rfl, rfl, rfl, trivial⟩, Dj, Dk, B8, hM⟩
   ·refine wp_exit ?_
    refine qx (qx (qV (qg ?_)))
    exact B4 _ _ ⟨Bp, Bs, Bz, Bv, hS.to [0, 1] (by kernel_rfl) ⟨rfl, rfl, rfl, rfl, trivial⟩, BF, BG, BH, hM⟩
 ·intro a w hI
  obtain ⟨Bu, Bw, BL, BB, hS, B9, Da, Db, hM⟩ := hI
  rw [qr.j2] at hM
  refine zv <| sM hS rfl fun hS => sM hS rfl fun hS => sM hS rfl fun hS => sB hS rfl fun hS => sM hS rfl fun hS => sM hS rfl fun hS => sM hS rfl fun hS => qO hS rfl Tryd.call109 (zI hG K Bw (qk (Br - BB)) Br BB Bq Bn Bo Bu BL Da B9 (hS.st.part 2 [0, 1] (by kernel_rfl)) (qy hM) (fun BK BS BY w hM Dm Dn BT hst => qM hS.ev hst.appF rfl fun hS => ?_))
  replace hS : Ss _ _ _ H [Bq, BY] F _ _ := hS
  have Dc := Eq.trans BT Db
  replace hS := hS.re 0 (u := .slice Bn Bu.length Bo) (v := .slice Bn BK.length Bo) rfl (by rw [BT])
  replace hS := hS.re 50 (u := .slice Bn Bu.length Bo) (v := .slice Bn BK.length Bo) rfl (by rw [BT])
  refine q9 ?_
  exact yj (rs := []) hS rfl rfl (hret BK BS BY _ (zj hM) Dm Dn Dc (hS.st.pick [0, 1] (by kernel_rfl)))
end Go.TrydS

