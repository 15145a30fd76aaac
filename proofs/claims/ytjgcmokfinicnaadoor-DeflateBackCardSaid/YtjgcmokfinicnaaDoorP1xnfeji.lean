/- Printed by a program of mine: each Go function answers what its model answers; conditions: what each theorem asks of memory. -/
import Derived.Test.YtjgcmokfinicnaaDoorMgmlkd
import Derived.Test.YtjgcmokfinicnaaDoorChecked
set_option linter.unusedVariables false
set_option linter.unusedSimpArgs false
set_option maxRecDepth 100000
namespace Go.TrydS
open Go Go.Sl Go.Mo Go.Proofs
attribute [local irreducible] qN.wp
theorem xH : Tryd.prog.follows .mixedOrders = true := by kernel_rfl
def _root_.Go.Mo.qv.cells (x : qv) : List Value := [.int .u8 x.Lit_, .int .i64 x.Len_, .int .i64 x.Dist_]
def _root_.Go.Mo.qW.cells (x : qW) : List Value := [.int .i64 x.at_]
def _root_.Go.Mo.xV.cells (x : xV) : List Value := [.int .i64 x.symbol_, .int .i64 x.bits_, .int .u32 x.more_]
def _root_.Go.Mo.qh.cells (x : qh) : List Value := [.int .i64 x.symbol_, .int .i64 x.more_, .int .i64 x.bits_]
def _root_.Go.Mo.qj.cells (x : qj) : List Value := [yb x.S_, .int .i64 x.At_]
theorem X.el3 : El Tryd.prog 3 1 8 := ⟨_, _, Tryd.typeInfo3, rfl, rfl, rfl, rfl⟩
theorem X.el5 : El Tryd.prog 5 1 1 := ⟨_, _, Tryd.typeInfo5, rfl, rfl, rfl, rfl⟩
theorem X.el32 : El Tryd.prog 32 3 24 := ⟨_, _, Tryd.typeInfo32, rfl, rfl, rfl, rfl⟩
theorem X.el45 : El Tryd.prog 45 1 24 := ⟨_, _, Tryd.typeInfo45, rfl, rfl, rfl, rfl⟩
theorem X.el75 : El Tryd.prog 75 3 24 := ⟨_, _, Tryd.typeInfo75, rfl, rfl, rfl, rfl⟩
theorem X.el110 : El Tryd.prog 110 1 24 := ⟨_, _, Tryd.typeInfo110, rfl, rfl, rfl, rfl⟩
theorem X.el112 : El Tryd.prog 112 2 32 := ⟨_, _, Tryd.typeInfo112, rfl, rfl, rfl, rfl⟩
theorem xG : ∀ x, ∀ u ∈ (ci .i64) x, u.oneCell' = true := fun x u hu => by cases hu with | head => rfl | tail _ h => cases h
theorem uA : ∀ x, ∀ u ∈ (ci .u8) x, u.oneCell' = true := fun x u hu => by cases hu with | head => rfl | tail _ h => cases h
theorem B7 : ∀ x, ∀ u ∈ qv.cells x, u.oneCell' = true := by
  intro x u hu
  simp only [qv.cells, List.mem_cons, List.not_mem_nil, or_false] at hu
  rcases hu with rfl | rfl | rfl <;> rfl
theorem Xd : ∀ x, ∀ u ∈ qh.cells x, u.oneCell' = true := by
  intro x u hu
  simp only [qh.cells, List.mem_cons, List.not_mem_nil, or_false] at hu
  rcases hu with rfl | rfl | rfl <;> rfl
structure Gl (H : xU) : Prop where
  g0 : ∃ T fr, H 0 = some (.cells ⟨tab_deflate_order.flatMap (ci .i64)⟩ T fr)
theorem Ja {H : xU} {F : List qm} {w : World} {R : Ending → World → Prop} {kr : Bool → Prop} {kp : Value → Prop} (hG : Gl H) (K : Nat) (LB : qv)
    (hS : St w H [] F) (hm : (vV.m K LB).wp kr kp)
    (hret : ∀ (LE : Bool) (w : World), kr LE → St w H [] F → R (.returned (.bool LE)) w) :
    Calls Tryd.prog 74 ⟨[.agg ⟨[.int .u8 LB.Lit_, .int .i64 LB.Len_, .int .i64 LB.Dist_]⟩]⟩ w R := by
 refine enter Tryd.func74 rfl Tryd.ntmps74 rfl hS fun a w hS => ?_
 have hM := hm; clear hm
 rw [vV.m] at hM
 refine qk <| bx ([.int .u8 LB.Lit_, .int .i64 LB.Len_, .int .i64 LB.Dist_]) hS rfl rfl rfl fun w LH LI LC hS => sA hS rfl fun hS => qz <| wp_seq <| qk <| sO hS (xr rfl Tryd.runUnderlying32 rfl Tryd.sizeOf3 rfl) rfl fun hS => sO hS (xW 0 rfl LC rfl rfl Tryd.isAgg3) rfl fun hS => sB hS rfl fun hS => qz <| qy hS rfl hM (fun LD hM => ?_) (fun LD hM => ?_)
 ·refine wp_seq ?_
  refine zI <| sO hS (xr rfl Tryd.runUnderlying32 rfl Tryd.sizeOf3 rfl) rfl fun hS => sO hS (xW 0 rfl LC rfl rfl Tryd.isAgg3) rfl fun hS => sB hS rfl fun hS => zH (v := Value.bool) (x0 := (LB.Len_ == (0 : Int))) hS (xv rfl) rfl fun LF a w hz hS => ?_
  have hM := qB hz hM; clear hz
  refine qz <| wp_ret <| qA ?_
  exact zm (rs := [2]) hS rfl rfl (hret LF _ (qU hM) (hS.st.pick [] (by kernel_rfl)))
 ·refine wp_skip ?_
  refine qc <| qk <| sO hS (xr rfl Tryd.runUnderlying32 rfl Tryd.sizeOf3 rfl) rfl fun hS => sO hS (xW 0 rfl LC rfl rfl Tryd.isAgg3) rfl fun hS => sB hS rfl fun hS => sM hS rfl fun hS => yw 3 true 12 (b := (decide (LB.Dist_ > (0 : Int)))) (r := (decide (LB.Dist_ ≤ (32768 : Int)))) hS rfl rfl rfl rfl rfl rfl rfl (fun hb a w hS K hK => ?_) rfl fun a w hS => ?_
  ·refine zK hS rfl rfl rfl hb (xr rfl Tryd.runUnderlying32 rfl Tryd.sizeOf3 rfl) rfl fun a w hS => ?_
   refine zK hS rfl rfl rfl hb (xW 0 rfl LC rfl rfl Tryd.isAgg3) rfl fun a w hS => zK hS rfl rfl rfl hb (yZ rfl rfl rfl) rfl fun a w hS => ?_
   exact zd (hK _ _ (hS.up 3 rfl rfl))
  refine sM hS rfl fun hS => yw 3 true 17 (b := ((decide (LB.Dist_ > (0 : Int))) && (decide (LB.Dist_ ≤ (32768 : Int))))) (r := (decide (LB.Len_ ≥ (3 : Int)))) hS rfl rfl rfl rfl rfl rfl rfl (fun hb a w hS K hK => ?_) rfl fun a w hS => ?_
  ·refine zK hS rfl rfl rfl hb (xr rfl Tryd.runUnderlying32 rfl Tryd.sizeOf3 rfl) rfl fun a w hS => ?_
   refine zK hS rfl rfl rfl hb (xW 0 rfl LC rfl rfl Tryd.isAgg3) rfl fun a w hS => zK hS rfl rfl rfl hb (yZ rfl rfl rfl) rfl fun a w hS => ?_
   exact zd (hK _ _ (hS.up 3 rfl rfl))
  refine sM hS rfl fun hS => yw 3 true 22 (b := (((decide (LB.Dist_ > (0 : Int))) && (decide (LB.Dist_ ≤ (32768 : Int)))) && (decide (LB.Len_ ≥ (3 : Int))))) (r := (decide (LB.Len_ ≤ (258 : Int)))) hS rfl rfl rfl rfl rfl rfl rfl (fun hb a w hS K hK => ?_) rfl fun a w hS => ?_
  ·refine zK hS rfl rfl rfl hb (xr rfl Tryd.runUnderlying32 rfl Tryd.sizeOf3 rfl) rfl fun a w hS => ?_
   refine zK hS rfl rfl rfl hb (xW 0 rfl LC rfl rfl Tryd.isAgg3) rfl fun a w hS => zK hS rfl rfl rfl hb (yZ rfl rfl rfl) rfl fun a w hS => ?_
   exact zd (hK _ _ (hS.up 3 rfl rfl))
  refine sM hS rfl fun hS => yw 3 true 27 (b := ((((decide (LB.Dist_ > (0 : Int))) && (decide (LB.Dist_ ≤ (32768 : Int)))) && (decide (LB.Len_ ≥ (3 : Int)))) && (decide (LB.Len_ ≤ (258 : Int))))) (r := (LB.Lit_ == (0 : Int))) hS rfl rfl rfl rfl rfl rfl rfl (fun hb a w hS K hK => ?_) rfl fun a w hS => ?_
  ·refine zK hS rfl rfl rfl hb (xr rfl Tryd.runUnderlying32 rfl Tryd.sizeOf5 rfl) rfl fun a w hS => ?_
   refine zK hS rfl rfl rfl hb (xW 0 rfl LC rfl rfl Tryd.isAgg5) rfl fun a w hS => zK hS rfl rfl rfl hb (yZ rfl rfl rfl) rfl fun a w hS => ?_
   exact zd (hK _ _ (hS.up 3 rfl rfl))
  refine zH (v := Value.bool) (x0 := (((((decide (LB.Dist_ > (0 : Int))) && (decide (LB.Dist_ ≤ (32768 : Int)))) && (decide (LB.Len_ ≥ (3 : Int)))) && (decide (LB.Len_ ≤ (258 : Int)))) && (LB.Lit_ == (0 : Int)))) hS (xv rfl) rfl fun LG a w hz hS => ?_
  have hM := qB hz hM; clear hz
  refine qz <| wp_ret ?_
  exact zm (rs := [2]) hS rfl rfl (hret LG _ (qU hM) (hS.st.pick [] (by kernel_rfl)))
theorem uV {H : xU} {F : List qm} {w : World} {R : Ending → World → Prop} {kr : Int → Prop} {kp : Value → Prop} (hG : Gl H) (K : Nat) (LE : Int) (LB : Int)
    (hS : St w H [] F) (hm : (yg.m K LE LB).wp kr kp)
    (hret : ∀ (LL : Int) (w : World), kr LL → St w H [] F → R (.returned (.int .i64 LL)) w) :
    Calls Tryd.prog 76 ⟨[.int .i64 LE, .int .i64 LB]⟩ w R := by
 refine enter Tryd.func76 rfl Tryd.ntmps76 rfl hS fun a w hS => ?_
 have hM := hm; clear hm
 rw [yg.m] at hM
 refine qk <| sA hS rfl fun hS => qz <| qk <| sA hS rfl fun hS => qz <| wp_seq <| xJ <| zv (fun LK a w => ∃ (LD : Int) (LC : Int), Ss 15 [] [(0, .int .i64 LD), (1, .int .i64 LB), (5, .int .i64 LC)] H [] F a w ∧ (yg.l1 K LB LK LD LC).wp kr kp) K ?_ ?_ ?_
 ·exact ⟨LE, (0 : Int), hS.to [] (by kernel_rfl) ⟨rfl, rfl, rfl, trivial⟩, hM⟩
 ·intro a w hI; obtain ⟨_, _, _, hM⟩ := hI; exact zr hM
 ·intro LK a w hI LM LF
  obtain ⟨LD, LC, hS, hM⟩ := hI
  rw [yg.l1] at hM
  refine wp_seq <| qk <| sM hS rfl fun hS => sM hS rfl fun hS => ?_
  obtain ⟨LH, hM⟩ := qE hM
  refine sO hS (shl rfl rfl LH) rfl fun hS => sB hS rfl fun hS => qz <| qy hS rfl hM (fun LG hM => ?_) (fun LG hM => ?_)
  ·refine wp_skip ?_
   refine qc <| xJ <| qk <| sM hS rfl fun hS => sO hS (shr rfl rfl rfl) rfl fun hS => zH (v := Value.int .i64) (x0 := (xF .i64 LD (1 : Int))) hS (xv rfl) rfl fun LJ a w hz hS => ?_
   have hM := qB hz hM; clear hz
   refine qz <| zI <| sM hS rfl fun hS => sB hS rfl fun hS => zH (v := Value.int .i64) (x0 := (qi (LC + (1 : Int)))) hS (xv rfl) rfl fun LI a w hz hS => ?_
   have hM := qB hz hM; clear hz
   refine zd <| zz (qc ?_)
   exact LF _ _ ⟨LJ, LI, hS.to [] (by kernel_rfl) ⟨rfl, rfl, rfl, trivial⟩, hM⟩
  ·refine wp_exit ?_
   refine qC (qC (q9 (qc ?_)))
   refine qk <| sM hS rfl fun hS => sA hS rfl fun hS => qz <| wp_ret ?_
   exact zm (rs := [4]) hS rfl rfl (hret LC _ (qU hM) (hS.st.pick [] (by kernel_rfl)))
theorem QV {H : xU} {F : List qm} {w : World} {R : Ending → World → Prop} {kr : Int → Prop} {kp : Value → Prop} (hG : Gl H) (K : Nat) (LB : Int)
    (hS : St w H [] F) (hm : (yH.m K LB).wp kr kp)
    (hret : ∀ (LE : Int) (w : World), kr LE → St w H [] F → R (.returned (.int .i64 LE)) w) :
    Calls Tryd.prog 75 ⟨[.int .i64 LB]⟩ w R := by
 refine enter Tryd.func75 rfl Tryd.ntmps75 rfl hS fun a w hS => ?_
 have hM := hm; clear hm
 rw [yH.m] at hM
 refine qk <| sA hS rfl fun hS => qz <| wp_seq <| xJ <| qk <| sM hS rfl fun hS => sB hS rfl fun hS => zH (v := Value.bool) (x0 := (LB == (258 : Int))) hS (xv rfl) rfl fun LJ a w hz hS => ?_
 have hM := qB hz hM; clear hz
 refine qz <| qy hS rfl hM (fun LC hM => ?_) (fun LC hM => ?_)
 ·refine wp_seq ?_
  refine zI <| sA hS rfl fun hS => qz <| wp_ret <| z3 (qA ?_)
  exact zm (rs := [2]) hS rfl rfl (hret (8 : Int) _ (qU hM) (hS.st.pick [] (by kernel_rfl)))
 ·refine wp_seq ?_
  refine zI <| sM hS rfl fun hS => sB hS rfl fun hS => zH (v := Value.bool) (x0 := (decide (LB ≥ (115 : Int)))) hS (xv rfl) rfl fun LK a w hz hS => ?_
  have hM := qB hz hM; clear hz
  refine qz <| qy hS rfl hM (fun LD hM => ?_) (fun LD hM => ?_)
  ·refine wp_seq ?_
   refine zI <| sM hS rfl fun hS => sB hS rfl fun hS => qK hS rfl Tryd.call76 (uV hG K (qi (LB - (3 : Int))) (2 : Int) (hS.st.part 0 [] (by kernel_rfl)) (qx hM) (fun LH w hM  hst => qJ hS.ev hst.appF rfl fun hS => ?_))
   replace hS : Ss _ _ _ H [] F _ _ := hS
   refine sB hS rfl fun hS => zH (v := Value.int .i64) (x0 := (qi ((8 : Int) + LH))) hS (xv rfl) rfl fun LF a w hz hS => ?_
   have hM := qB hz hM; clear hz
   refine qz <| wp_ret <| z3 (qA ?_)
   exact zm (rs := [2]) hS rfl rfl (hret LF _ (qU hM) (hS.st.pick [] (by kernel_rfl)))
  ·refine wp_skip ?_
   refine zz (qc ?_)
   refine qk <| sM hS rfl fun hS => sB hS rfl fun hS => qK hS rfl Tryd.call76 (uV hG K (qi (LB - (3 : Int))) (2 : Int) (hS.st.part 0 [] (by kernel_rfl)) (qx hM) (fun LI w hM  hst => qJ hS.ev hst.appF rfl fun hS => ?_))
   replace hS : Ss _ _ _ H [] F _ _ := hS
   refine sB hS rfl fun hS => zH (v := Value.int .i64) (x0 := (qi ((7 : Int) + LI))) hS (xv rfl) rfl fun LG a w hz hS => ?_
   have hM := qB hz hM; clear hz
   refine qz <| wp_ret ?_
   exact zm (rs := [2]) hS rfl rfl (hret LG _ (qU hM) (hS.st.pick [] (by kernel_rfl)))
theorem Y9 {H : xU} {F : List qm} {w : World} {R : Ending → World → Prop} {kr : (Int × Int) → Prop} {kp : Value → Prop} (hG : Gl H) (K : Nat) (LB : List qv) (LM : Option Addr) (LN : Nat) (LK : jn H [] F qv.cells LM LB) (L0 : LB.length ≤ LN)
    (hS : St w H [] F) (hm : (x8.m K LB).wp kr kp)
    (hret : ∀ (LY : Int) (LZ : Int) (w : World), kr (LY, LZ) → St w H [] F → R (.returned (.tuple ⟨[.int .i64 LY, .int .i64 LZ]⟩)) w) :
    Calls Tryd.prog 49 ⟨[.slice LM LB.length LN]⟩ w R := by
 refine enter Tryd.func49 rfl Tryd.ntmps49 rfl hS fun a w hS => ?_
 have hM := hm; clear hm
 rw [x8.m] at hM
 refine qk <| sA hS rfl fun hS => sA hS rfl fun hS => qz <| qk <| sA hS rfl fun hS => qz <| wp_seq <| qk <| sM hS rfl fun hS => sO hS (ya rfl Tryd.runUnderlying25) rfl fun hS => sM hS rfl fun hS => qz <| xJ <| zv (fun LX a w => ∃ (LD : Int) (LC : Int), Ss 47 [] [(4, .int .i64 LD), (7, .slice LM LB.length LN), (8, .int .i64 (LB.length : Int)), (9, .int .i64 LC)] H [] F a w ∧ (x8.l1 K LB LX LD LC).wp kr kp) K ?_ ?_ ?_
 ·exact ⟨(7 : Int), (0 : Int), hS.to [] (by kernel_rfl) ⟨rfl, rfl, rfl, rfl, trivial⟩, hM⟩
 ·intro a w hI; obtain ⟨_, _, _, hM⟩ := hI; exact zr hM
 ·intro LX a w hI L3 LF
  obtain ⟨LD, LC, hS, hM⟩ := hI
  rw [x8.l1] at hM
  refine qk <| sB hS rfl fun hS => qz <| wp_seq <| qy hS rfl hM (fun LR hM => ?_) (fun LR hM => ?_)
  ·refine wp_skip ?_
   refine qc <| wp_seq <| xJ <| wp_seq <| zI ?_
   obtain ⟨LJ, hM⟩ := qE hM
   refine sO hS (x6 rfl rfl Tryd.runUnderlying25 Tryd.sizeOf32 LK.wk (fun _ => rfl) rfl LJ) rfl fun hS => sO hS (vS rfl LK.wk (fun _ => rfl) LJ Tryd.isAgg32 Tryd.sizeOf32 rfl) rfl fun hS => QJ ([.int .u8 (0 : Int), .int .i64 (0 : Int), .int .i64 (0 : Int)]) hS Tryd.zeroValue32 rfl rfl fun w LI L4 LQ hS => u5 0 ([.int .u8 ((rd LB LC).Lit_), .int .i64 ((rd LB LC).Len_), .int .i64 ((rd LB LC).Dist_)]) ([.int .u8 ((rd LB LC).Lit_), .int .i64 ((rd LB LC).Len_), .int .i64 ((rd LB LC).Dist_)]) hS rfl rfl LQ rfl rfl Tryd.sizeOf32 (by simp [Value.oneCell']) (Nat.le_of_ble_eq_true rfl) rfl fun w LP LE hS => qz <| xJ <| qk <| sO hS (vT 0 rfl LE rfl ([.int .u8 ((rd LB LC).Lit_), .int .i64 ((rd LB LC).Len_), .int .i64 ((rd LB LC).Dist_)]) rfl rfl Tryd.isAgg32 Tryd.sizeOf32) rfl fun hS => qK hS rfl Tryd.call74 (Ja hG K (qv.mk ((rd LB LC).Lit_) ((rd LB LC).Len_) ((rd LB LC).Dist_)) (hS.st.part 0 [0] (by kernel_rfl)) (qx hM) (fun L1 w hM  hst => qJ hS.ev hst.appF rfl fun hS => ?_))
   replace hS : Ss _ _ _ H [LP] F _ _ := hS
   refine sO hS (un rfl rfl) rfl fun hS => zH (v := Value.bool) (x0 := (!L1)) hS (xv rfl) rfl fun L5 a w hz hS => ?_
   have hM := qB hz hM; clear hz
   refine qz <| qy hS rfl hM (fun LS hM => ?_) (fun LS hM => ?_)
   ·refine wp_seq ?_
    refine zI <| sA hS rfl fun hS => sA hS rfl fun hS => qz <| wp_ret <| z3 (z3 (qA (qA (z3 (qA ?_)))))
    exact zm (rs := [2, 3]) hS rfl rfl (hret (0 : Int) (1 : Int) _ (qU hM) (hS.st.pick [] (by kernel_rfl)))
   ·refine wp_seq ?_
    refine zI <| sO hS (xr rfl Tryd.runUnderlying32 rfl Tryd.sizeOf3 rfl) rfl fun hS => sO hS (xW 0 rfl LE rfl rfl Tryd.isAgg3) rfl fun hS => sB hS rfl fun hS => sM hS rfl fun hS => yw 3 true 32 (b := ((rd LB LC).Dist_ == (0 : Int))) (r := (decide ((rd LB LC).Lit_ < (144 : Int)))) hS rfl rfl rfl rfl rfl rfl rfl (fun hb a w hS K hK => ?_) rfl fun a w hS => ?_
    ·refine zK hS rfl rfl rfl hb (xr rfl Tryd.runUnderlying32 rfl Tryd.sizeOf5 rfl) rfl fun a w hS => ?_
     refine zK hS rfl rfl rfl hb (xW 0 rfl LE rfl rfl Tryd.isAgg5) rfl fun a w hS => zK hS rfl rfl rfl hb (yZ rfl rfl rfl) rfl fun a w hS => ?_
     exact zd (hK _ _ (hS.up 3 rfl rfl))
    refine zH (v := Value.bool) (x0 := (((rd LB LC).Dist_ == (0 : Int)) && (decide ((rd LB LC).Lit_ < (144 : Int))))) hS (xv rfl) rfl fun L6 a w hz hS => ?_
    have hM := qB hz hM; clear hz
    refine qz <| qy hS rfl hM (fun LT hM => ?_) (fun LT hM => ?_)
    ·refine zI ?_
     refine sM hS rfl fun hS => sB hS rfl fun hS => zH (v := Value.int .i64) (x0 := (qi (LD + (8 : Int)))) hS (xv rfl) rfl fun LV a w hz hS => ?_
     have hM := qB hz hM; clear hz
     refine zd <| zz (zz (qc ?_))
     refine zI <| sB hS rfl fun hS => sM hS rfl fun hS => zd <| qc ?_
     exact LF _ _ ⟨LV, (qi (LC + (1 : Int))), hS.to [] (by kernel_rfl) ⟨rfl, rfl, rfl, rfl, trivial⟩, hM⟩
    ·refine wp_seq ?_
     refine zI <| sO hS (xr rfl Tryd.runUnderlying32 rfl Tryd.sizeOf3 rfl) rfl fun hS => sO hS (xW 0 rfl LE rfl rfl Tryd.isAgg3) rfl fun hS => sB hS rfl fun hS => zH (v := Value.bool) (x0 := ((rd LB LC).Dist_ == (0 : Int))) hS (xv rfl) rfl fun L7 a w hz hS => ?_
     have hM := qB hz hM; clear hz
     refine qz <| qy hS rfl hM (fun LU hM => ?_) (fun LU hM => ?_)
     ·refine zI ?_
      refine sM hS rfl fun hS => sB hS rfl fun hS => zH (v := Value.int .i64) (x0 := (qi (LD + (9 : Int)))) hS (xv rfl) rfl fun LW a w hz hS => ?_
      have hM := qB hz hM; clear hz
      refine zd <| zz (zz (qc ?_))
      refine zI <| sB hS rfl fun hS => sM hS rfl fun hS => zd <| qc ?_
      exact LF _ _ ⟨LW, (qi (LC + (1 : Int))), hS.to [] (by kernel_rfl) ⟨rfl, rfl, rfl, rfl, trivial⟩, hM⟩
     ·refine zh (vals := [some (.int .i64 LD), some (qO LI 1), some (.int .i64 ((rd LB LC).Len_)), none, none, some (qO LI 2), some (.int .i64 ((rd LB LC).Dist_)), some (.int .i64 (qi ((rd LB LC).Dist_ - (1 : Int)))), none, none, none, none]) hS xH rfl ?_
      intro l w ho hcl hA hst
      refine jQ hA hst ho hcl xQ xI 3 [0, 1, 2, 5, 6, 7] rfl rfl rfl rfl rfl (by exact ⟨nM rfl, nQ rfl (by exact qY (xr rfl Tryd.runUnderlying32 rfl Tryd.sizeOf3 rfl) rfl), nQ rfl (by exact qY (xW 0 rfl LE rfl rfl Tryd.isAgg3) rfl), nQ rfl (by exact qY (xr rfl Tryd.runUnderlying32 rfl Tryd.sizeOf3 rfl) rfl), nQ rfl (by exact qY (xW 0 rfl LE rfl rfl Tryd.isAgg3) rfl), nB rfl, trivial⟩) fun D l a w ho hcl hav hpre hm hE hk hA hst => ?_
      have hS := (Ss.mk hE hst).env2 (e' := [(15, .int .i64 ((rd LB LC).Len_))]) ⟨rfl, trivial⟩
      refine zi rfl <| qK hS rfl Tryd.call75 (QV hG K ((rd LB LC).Len_) (hS.st.part 0 [0] (by kernel_rfl)) (qx hM) (fun LH w hM  hst => qJ hS.ev hst.appF rfl fun hS => ?_))
      replace hS : Ss _ _ _ H [LP] F _ _ := hS
      refine qz ?_
      replace hst := hS.st
      obtain ⟨hcl, hmust, hav2, hA⟩ := dn (vals' := [some (.int .i64 LD), some (qO LI 1), some (.int .i64 ((rd LB LC).Len_)), some (.int .i64 LH), some (.int .i64 (qi (LH + (5 : Int)))), some (qO LI 2), some (.int .i64 ((rd LB LC).Dist_)), some (.int .i64 (qi ((rd LB LC).Dist_ - (1 : Int)))), none, none, none, none]) 3 [(2, 3), (1, 2)] hA hcl hav hm hpre hk rfl rfl rfl rfl rfl rfl rfl
      clear hm hav
      refine jQ hA hst ho hcl hav2 hmust 8 [0, 4, 5, 6, 7] rfl rfl rfl rfl rfl (by exact ⟨nM rfl, nB rfl, nQ rfl (by exact qY (xr rfl Tryd.runUnderlying32 rfl Tryd.sizeOf3 rfl) rfl), nQ rfl (by exact qY (xW 0 rfl LE rfl rfl Tryd.isAgg3) rfl), nB rfl, trivial⟩) fun D l a w ho hcl hav hpre hm hE hk hA hst => ?_
      have hS := (Ss.mk hE hst).env2 (e' := [(20, .int .i64 (qi ((rd LB LC).Dist_ - (1 : Int))))]) ⟨rfl, trivial⟩
      refine zi rfl <| qK hS rfl Tryd.call76 (uV hG K (qi ((rd LB LC).Dist_ - (1 : Int))) (1 : Int) (hS.st.part 0 [0] (by kernel_rfl)) (qx hM) (fun LO w hM  hst => qJ hS.ev hst.appF rfl fun hS => ?_))
      replace hS : Ss _ _ _ H [LP] F _ _ := hS
      refine qz ?_
      replace hst := hS.st
      obtain ⟨LG, LL⟩ : ∃ x, x = (qi (LD + (qi ((qi (LH + (5 : Int))) + LO)))) := ⟨_, rfl⟩
      replace hM := qB LL hM
      obtain ⟨hcl, hmust, hav2, hA⟩ := dn (vals' := [some (.int .i64 LD), some (qO LI 1), some (.int .i64 ((rd LB LC).Len_)), some (.int .i64 LH), some (.int .i64 (qi (LH + (5 : Int)))), some (qO LI 2), some (.int .i64 ((rd LB LC).Dist_)), some (.int .i64 (qi ((rd LB LC).Dist_ - (1 : Int)))), some (.int .i64 LO), some (.int .i64 (qi ((qi (LH + (5 : Int))) + LO))), some (.int .i64 (qi (LD + (qi ((qi (LH + (5 : Int))) + LO))))), some (.int .i64 LG)]) 8 [(3, 8), (7, 8), (2, 3), (6, 7), (1, 2), (5, 6)] hA hcl hav hm hpre hk rfl rfl rfl rfl rfl rfl rfl
      clear hm hav
      refine yo hA hst ho hcl hmust [0, 4, 9, 10, 11] rfl rfl rfl (by exact ⟨nM rfl, nB rfl, nB rfl, nB rfl, nQ rfl (by exact qY (xv rfl) (congrArg (Value.int .i64) LL.symm)), trivial⟩) fun a w hS => ?_
      replace hS := hS.env2 (e' := [(4, .int .i64 LG), (7, .slice LM LB.length LN), (8, .int .i64 (LB.length : Int)), (9, .int .i64 LC)]) ⟨rfl, rfl, rfl, rfl, trivial⟩
      refine zz (zz (qc ?_))
      refine zI <| sB hS rfl fun hS => sM hS rfl fun hS => zd <| qc ?_
      exact LF _ _ ⟨LG, (qi (LC + (1 : Int))), hS.to [] (by kernel_rfl) ⟨rfl, rfl, rfl, rfl, trivial⟩, hM⟩
  ·refine wp_exit ?_
   refine qC (qC (q9 (qc ?_)))
   refine qk <| sM hS rfl fun hS => sA hS rfl fun hS => sA hS rfl fun hS => qz <| wp_ret ?_
   exact zm (rs := [2, 3]) hS rfl rfl (hret LD (0 : Int) _ (qU hM) (hS.st.pick [] (by kernel_rfl)))
theorem Qj {H : xU} {F : List qm} {w : World} {R : Ending → World → Prop} {kr : Bool → Prop} {kp : Value → Prop} (hG : Gl H) (K : Nat) (LB : List qv) (LC : Option Addr) (LD : Nat) (LF : jn H [] F qv.cells LC LB) (LE : LB.length ≤ LD)
    (hS : St w H [] F) (hm : (ji.m K LB).wp kr kp)
    (hret : ∀ (LG : Bool) (w : World), kr LG → St w H [] F → R (.returned (.bool LG)) w) :
    Calls Tryd.prog 21 ⟨[.slice LC LB.length LD]⟩ w R := by
 refine enter Tryd.func21 rfl Tryd.ntmps21 rfl hS fun a w hS => ?_
 have hM := hm; clear hm
 rw [ji.m] at hM
 refine qk <| sA hS rfl fun hS => qz <| qk <| sM hS rfl fun hS => qK hS rfl Tryd.call49 (Y9 hG K LB LC LD (LF.app _) LE (hS.st.part 0 [] (by kernel_rfl)) (qx hM) (fun LJ LI w hM  hst => qJ hS.ev hst.appF rfl fun hS => ?_))
 replace hS : Ss _ _ _ H [] F _ _ := hS
 refine sM hS rfl fun hS => sO hS (ex rfl rfl) rfl fun hS => sO hS (ex rfl rfl) rfl fun hS => sA hS rfl fun hS => sA hS rfl fun hS => qz <| qk <| sM hS rfl fun hS => sB hS rfl fun hS => zH (v := Value.bool) (x0 := (LI == (0 : Int))) hS (xv rfl) rfl fun LH a w hz hS => ?_
 have hM := qB hz hM; clear hz
 refine qz <| wp_ret ?_
 exact zm (rs := [2]) hS rfl rfl (hret LH _ (qU hM) (hS.st.pick [] (by kernel_rfl)))
theorem Zd {H : xU} {F : List qm} {w : World} {R : Ending → World → Prop} {kr : ((List Int) × Bool) → Prop} {kp : Value → Prop} (hG : Gl H) (K : Nat) (LB : List Int) (LX : Option Addr) (LY : Nat) (LW : jn H [] F (ci .i64) LX LB) (Mh : LB.length ≤ LY)
    (hS : St w H [] F) (hm : (xk.m K LB).wp kr kp)
    (hret : ∀ (L0 : (List Int)) (Mb : Bool) (w : World), kr (L0, Mb) → (L0.length = 16) → St w H [] F → R (.returned (.tuple ⟨[.agg ⟨L0.flatMap (ci .i64)⟩, .bool Mb]⟩)) w) :
    Calls Tryd.prog 78 ⟨[.slice LX LB.length LY]⟩ w R := by
 refine enter Tryd.func78 rfl Tryd.ntmps78 rfl hS fun a w hS => ?_
 have hM := hm; clear hm
 rw [xk.m] at hM
 refine qk <| QJ ((List.replicate 16 (0 : Int)).flatMap (ci .i64)) hS Tryd.zeroValue136 rfl rfl fun w LF Mc LL hS => sA hS rfl fun hS => qz <| wp_seq <| qk <| sM hS rfl fun hS => sO hS (ya rfl Tryd.runUnderlying45) rfl fun hS => sB hS rfl fun hS => qz <| qy hS rfl hM (fun L6 hM => ?_) (fun L6 hM => ?_)
 ·refine wp_seq ?_
  refine zI <| sO hS (Y6 (xs := (List.replicate 16 (0 : Int))) (g := (ci .i64)) (pre := []) (post := []) 0 rfl LL rfl (by simp) rfl (xx (g := (ci .i64)) (sz := 1) (fun _ => rfl) (List.length_replicate ..)) Tryd.isAgg136 Tryd.sizeOf136) rfl fun hS => Jl (xs := (List.replicate 16 (0 : Int))) (ys := (List.replicate 16 (0 : Int))) (g := (ci .i64)) (pre := []) (post := []) 0 hS rfl rfl LL rfl (by simp) rfl (xx (g := (ci .i64)) (sz := 1) (fun _ => rfl) (List.length_replicate ..)) (xx (g := (ci .i64)) (sz := 1) (fun _ => rfl) (List.length_replicate ..)) (xG) Tryd.sizeOf136 fun w Md LM hS => ?_
  replace LM : xZ Md LF ((List.replicate 16 (0 : Int)).flatMap (ci .i64)) 136 := by simpa using LM
  refine sA hS rfl fun hS => qz <| wp_ret <| qA ?_
  exact yB (vs := [.agg ⟨(List.replicate 16 (0 : Int)).flatMap (ci .i64)⟩, .bool false]) hS rfl (by exact ⟨GE 0 rfl LM rfl (xx (g := (ci .i64)) (sz := 1) (fun _ => rfl) (List.length_replicate ..)) Tryd.isAgg136 Tryd.sizeOf136, Z6 rfl, trivial⟩) (hret (List.replicate 16 (0 : Int)) false _ (qU hM) (List.length_replicate ..) (hS.st.pick [] (by kernel_rfl)))
 ·refine wp_skip ?_
  refine qc <| zx (fun a w => ∃ (LG : (List Int)) (LZ : qm), Ss 31 [] [(2, qO LF 0)] H [LZ] F a w ∧ (LG.length = 16) ∧ (xZ LZ LF (LG.flatMap (ci .i64)) 136) ∧ (xk.j2 K LG).wp kr kp) (fun Mj L5 => ?_) ?_
  ·refine wp_seq ?_
   refine zI <| sM hS rfl fun hS => sO hS (ya rfl Tryd.runUnderlying45) rfl fun hS => sM hS rfl fun hS => qz <| xJ <| zv (fun Ma a w => ∃ (LC : (List Int)) (LT : qm) (LR : Int), Ss 31 [] [(2, qO LF 0), (10, .slice LX LB.length LY), (11, .int .i64 (LB.length : Int)), (12, .int .i64 LR)] H [LT] F a w ∧ (LC.length = 16) ∧ (xZ LT LF (LC.flatMap (ci .i64)) 136) ∧ (xk.l1 K LB Ma LC LR).wp kr kp) K ?_ ?_ ?_
   ·exact ⟨(List.replicate 16 (0 : Int)), Mc, (0 : Int), hS.to [0] (by kernel_rfl) ⟨rfl, rfl, rfl, rfl, trivial⟩, (List.length_replicate ..), LL, hM⟩
   ·intro a w hI; obtain ⟨_, _, _, _, _, _, hM⟩ := hI; exact zr hM
   ·intro Ma a w hI Mi L4
    obtain ⟨LC, LT, LR, hS, LD, LH, hM⟩ := hI
    rw [xk.l1] at hM
    refine qk <| sB hS rfl fun hS => qz <| wp_seq <| qy hS rfl hM (fun L7 hM => ?_) (fun L7 hM => ?_)
    ·refine wp_skip ?_
     refine qc <| wp_seq <| xJ <| wp_seq <| zI ?_
     obtain ⟨LU, hM⟩ := qE hM
     refine sO hS (x6 rfl rfl Tryd.runUnderlying45 Tryd.sizeOf3 LW.wk (fun _ => rfl) rfl LU) rfl fun hS => sO hS (x9 rfl LW.wk (fun _ => rfl) LU rfl Tryd.isAgg3) rfl fun hS => zH (v := Value.int .i64) (x0 := (rd LB LR)) hS (xv rfl) rfl fun LQ a w hz hS => ?_
     have hM := qB hz hM; clear hz
     refine qz <| wp_seq <| qk <| sM hS rfl fun hS => sB hS rfl fun hS => sM hS rfl fun hS => yw 2 false 18 (b := (decide (LQ < (0 : Int)))) (r := (decide (LQ > (15 : Int)))) hS rfl rfl rfl rfl rfl rfl rfl (fun hb a w hS K hK => ?_) rfl fun a w hS => ?_
     ·refine zK hS rfl rfl rfl hb (mv rfl) rfl fun a w hS => ?_
      refine zK hS rfl rfl rfl hb (yZ rfl rfl rfl) rfl fun a w hS => ?_
      exact zd (hK _ _ (hS.up 2 rfl rfl))
     refine qz <| qy hS rfl hM (fun L8 hM => ?_) (fun L8 hM => ?_)
     ·refine wp_seq ?_
      refine zI <| sO hS (Y6 (xs := LC) (g := (ci .i64)) (pre := []) (post := []) 0 rfl LH rfl (by simp) rfl (xx (g := (ci .i64)) (sz := 1) (fun _ => rfl) LD) Tryd.isAgg136 Tryd.sizeOf136) rfl fun hS => Jl (xs := LC) (ys := LC) (g := (ci .i64)) (pre := []) (post := []) 0 hS rfl rfl LH rfl (by simp) rfl (xx (g := (ci .i64)) (sz := 1) (fun _ => rfl) LD) (xx (g := (ci .i64)) (sz := 1) (fun _ => rfl) LD) (xG) Tryd.sizeOf136 fun w Me LN hS => ?_
      replace LN : xZ Me LF (LC.flatMap (ci .i64)) 136 := by simpa using LN
      refine sA hS rfl fun hS => qz <| wp_ret <| qA (z3 (qA (qA (z3 (qA ?_)))))
      exact yB (vs := [.agg ⟨LC.flatMap (ci .i64)⟩, .bool false]) hS rfl (by exact ⟨GE 0 rfl LN rfl (xx (g := (ci .i64)) (sz := 1) (fun _ => rfl) LD) Tryd.isAgg136 Tryd.sizeOf136, Z6 rfl, trivial⟩) (hret LC false _ (qU hM) LD (hS.st.pick [] (by kernel_rfl)))
     ·refine wp_skip ?_
      refine qc <| zI <| sM hS rfl fun hS => ?_
      obtain ⟨LK, hM⟩ := qE hM
      refine sO hS (DH rfl rfl Tryd.runUnderlying136 Tryd.sizeOf3 LK) rfl fun hS => sO hS (GO (xs := LC) (g := (ci .i64)) (pre := []) (post := []) 0 rfl LH rfl (by simp) rfl (fun _ => rfl) (ul LD LK) rfl Tryd.isAgg3) rfl fun hS => sB hS rfl fun hS => sO hS (DH rfl rfl Tryd.runUnderlying136 Tryd.sizeOf3 LK) rfl fun hS => GS (xs := LC) (g := (ci .i64)) (pre := []) (post := []) 0 ((qi ((rd LC LQ) + (1 : Int)))) hS rfl rfl LH rfl (by simp) rfl (fun _ => rfl) (ul LD LK) rfl Tryd.sizeOf3 (xG _) fun LS w L1 hz LO hS => ?_
      have L9 : LS.length = 16 := by rw [hz, List.length_set]; exact LD
      have hM := qB hz hM; clear hz
      replace LO : xZ L1 LF (LS.flatMap (ci .i64)) 136 := by simpa using LO
      refine zd <| zz (qc ?_)
      refine zI <| sB hS rfl fun hS => sM hS rfl fun hS => zd <| qc ?_
      exact L4 _ _ ⟨LS, L1, (qi (LR + (1 : Int))), hS.to [0] (by kernel_rfl) ⟨rfl, rfl, rfl, rfl, trivial⟩, L9, LO, hM⟩
    ·refine wp_exit ?_
     refine qC (qC (q9 (qc ?_)))
     exact L5 _ _ ⟨LC, LT, hS.to [0] (by kernel_rfl) ⟨rfl, trivial⟩, LD, LH, hM⟩
  ·intro a w hI
   obtain ⟨LG, LZ, hS, LV, L3, hM⟩ := hI
   rw [xk.j2] at hM
   refine qk <| sO hS (DH rfl rfl Tryd.runUnderlying136 Tryd.sizeOf3 rfl) rfl fun hS => GS (xs := LG) (g := (ci .i64)) (pre := []) (post := []) 0 ((0 : Int)) hS rfl rfl L3 rfl (by simp) rfl (fun _ => rfl) (ul LV rfl) rfl Tryd.sizeOf3 (xG _) fun LE w Mf hz LJ hS => ?_
   have LI : LE.length = 16 := by rw [hz, List.length_set]; exact LV
   have hM := qB hz hM; clear hz
   replace LJ : xZ Mf LF (LE.flatMap (ci .i64)) 136 := by simpa using LJ
   refine qz <| qk <| sO hS (Y6 (xs := LE) (g := (ci .i64)) (pre := []) (post := []) 0 rfl LJ rfl (by simp) rfl (xx (g := (ci .i64)) (sz := 1) (fun _ => rfl) LI) Tryd.isAgg136 Tryd.sizeOf136) rfl fun hS => Jl (xs := LE) (ys := LE) (g := (ci .i64)) (pre := []) (post := []) 0 hS rfl rfl LJ rfl (by simp) rfl (xx (g := (ci .i64)) (sz := 1) (fun _ => rfl) LI) (xx (g := (ci .i64)) (sz := 1) (fun _ => rfl) LI) (xG) Tryd.sizeOf136 fun w Mg LP hS => ?_
   replace LP : xZ Mg LF (LE.flatMap (ci .i64)) 136 := by simpa using LP
   refine sA hS rfl fun hS => qz <| wp_ret ?_
   exact yB (vs := [.agg ⟨LE.flatMap (ci .i64)⟩, .bool true]) hS rfl (by exact ⟨GE 0 rfl LP rfl (xx (g := (ci .i64)) (sz := 1) (fun _ => rfl) LI) Tryd.isAgg136 Tryd.sizeOf136, Z6 rfl, trivial⟩) (hret LE true _ (qU hM) LI (hS.st.pick [] (by kernel_rfl)))
theorem YX {H : xU} {F : List qm} {w : World} {R : Ending → World → Prop} {kr : Int → Prop} {kp : Value → Prop} (hG : Gl H) (K : Nat) (LB : List Int) (LI : Option Addr) (LK : Nat) (LW : jn H [] F (ci .i64) LI LB) (LT : LB.length ≤ LK)
    (hS : St w H [] F) (hm : (xw.m K LB).wp kr kp)
    (hret : ∀ (LZ : Int) (w : World), kr LZ → St w H [] F → R (.returned (.int .i64 LZ)) w) :
    Calls Tryd.prog 77 ⟨[.slice LI LB.length LK]⟩ w R := by
 refine enter Tryd.func77 rfl Tryd.ntmps77 rfl hS fun a w hS => ?_
 have hM := hm; clear hm
 rw [xw.m] at hM
 refine qk <| sA hS rfl fun hS => qz <| qk <| sM hS rfl fun hS => qK hS rfl Tryd.call78 (Zd hG K LB LI LK (LW.app _) LT (hS.st.part 0 [] (by kernel_rfl)) (qx hM) (fun LE L4 w hM LH hst => qJ hS.ev hst.appF rfl fun hS => ?_))
 replace hS : Ss _ _ _ H [] F _ _ := hS
 refine sM hS rfl fun hS => sO hS (ex rfl rfl) rfl fun hS => sO hS (ex rfl rfl) rfl fun hS => QJ ((List.replicate 16 (0 : Int)).flatMap (ci .i64)) hS Tryd.zeroValue136 rfl rfl fun w LJ L3 LN hS => Jl (xs := (List.replicate 16 (0 : Int))) (ys := LE) (g := (ci .i64)) (pre := []) (post := []) 0 hS rfl rfl LN rfl (by simp) rfl (xx (g := (ci .i64)) (sz := 1) (fun _ => rfl) (List.length_replicate ..)) (xx (g := (ci .i64)) (sz := 1) (fun _ => rfl) LH) (xG) Tryd.sizeOf136 fun w LL LF hS => ?_
 replace LF : xZ LL LJ (LE.flatMap (ci .i64)) 136 := by simpa using LF
 refine sA hS rfl fun hS => qz <| wp_seq <| qk <| sM hS rfl fun hS => sO hS (un rfl rfl) rfl fun hS => qz <| qy hS rfl hM (fun LQ hM => ?_) (fun LQ hM => ?_)
 ·refine wp_seq ?_
  refine zI <| sA hS rfl fun hS => qz <| wp_ret <| qA ?_
  exact zm (rs := [2]) hS rfl rfl (hret (1 : Int) _ (qU hM) (hS.st.pick [] (by kernel_rfl)))
 ·refine wp_skip ?_
  refine qc <| qk <| sA hS rfl fun hS => qz <| zx (fun a w => ∃ (LC : Int), Ss 38 [] [(3, qO LJ 0), (5, .int .i64 LC)] H [LL] F a w ∧ (xw.j2 K LE LC).wp kr kp) (fun L1 LP => ?_) ?_
  ·refine wp_seq ?_
   refine zI <| sO hS (Y6 (xs := LE) (g := (ci .i64)) (pre := []) (post := []) 0 rfl LF rfl (by simp) rfl (xx (g := (ci .i64)) (sz := 1) (fun _ => rfl) LH) Tryd.isAgg136 Tryd.sizeOf136) rfl fun hS => sM hS rfl fun hS => qz <| xJ <| zv (fun LX a w => ∃ (LD : Int) (LG : Int), Ss 38 [] [(3, qO LJ 0), (5, .int .i64 LD), (15, .agg ⟨LE.flatMap (ci .i64)⟩), (16, .int .i64 LG)] H [LL] F a w ∧ (xw.l1 K LE LX LD LG).wp kr kp) K ?_ ?_ ?_
   ·exact ⟨(0 : Int), (0 : Int), hS.to [0] (by kernel_rfl) ⟨rfl, rfl, rfl, rfl, trivial⟩, hM⟩
   ·intro a w hI; obtain ⟨_, _, _, hM⟩ := hI; exact zr hM
   ·intro LX a w hI L0 LO
    obtain ⟨LD, LG, hS, hM⟩ := hI
    rw [xw.l1] at hM
    refine qk <| sB hS rfl fun hS => qz <| wp_seq <| qy hS rfl hM (fun LR hM => ?_) (fun LR hM => ?_)
    ·refine wp_skip ?_
     refine qc <| wp_seq <| xJ <| qk <| sM hS rfl fun hS => ?_
     obtain ⟨LU, hM⟩ := qE hM
     refine sO hS (G9 rfl rfl Tryd.runUnderlying136 Tryd.isAgg3 Tryd.sizeOf3 (fun _ => rfl) LH LU rfl) rfl fun hS => sA hS rfl fun hS => zH (v := Value.int .i64) (x0 := (rd LE LG)) hS (xv rfl) rfl fun LY a w hz hS => ?_
     have hM := qB hz hM; clear hz
     refine qz <| zI <| sM hS rfl fun hS => sM hS rfl fun hS => sM hS rfl fun hS => ?_
     obtain ⟨LV, hM⟩ := qE hM
     refine sO hS (shr rfl rfl LV) rfl fun hS => sB hS rfl fun hS => sB hS rfl fun hS => zH (v := Value.int .i64) (x0 := (qi (LD + (qi (LY * (xF .i64 (32768 : Int) LG)))))) hS (xv rfl) rfl fun LM a w hz hS => ?_
     have hM := qB hz hM; clear hz
     refine zd <| zz (qc ?_)
     refine zI <| sB hS rfl fun hS => sM hS rfl fun hS => zd <| qc ?_
     exact LO _ _ ⟨LM, (qi (LG + (1 : Int))), hS.to [0] (by kernel_rfl) ⟨rfl, rfl, rfl, rfl, trivial⟩, hM⟩
    ·refine wp_exit ?_
     refine qC (qC (q9 (qc ?_)))
     exact LP _ _ ⟨LD, hS.to [0] (by kernel_rfl) ⟨rfl, rfl, trivial⟩, hM⟩
  ·intro a w hI
   obtain ⟨LC, hS, hM⟩ := hI
   rw [xw.j2] at hM
   refine wp_seq <| qk <| sM hS rfl fun hS => sB hS rfl fun hS => sM hS rfl fun hS => yw 2 false 29 (b := (LC == (0 : Int))) (r := (LC == (32768 : Int))) hS rfl rfl rfl rfl rfl rfl rfl (fun hb a w hS K hK => ?_) rfl fun a w hS => ?_
   ·refine zK hS rfl rfl rfl hb (mv rfl) rfl fun a w hS => ?_
    refine zK hS rfl rfl rfl hb (yZ rfl rfl rfl) rfl fun a w hS => ?_
    exact zd (hK _ _ (hS.up 2 rfl rfl))
   refine sM hS rfl fun hS => yw 3 false 33 (b := ((LC == (0 : Int)) || (LC == (32768 : Int)))) (r := (LE == ([0, (1 : Int), 0, 0, 0, 0, 0, 0, 0, 0, 0, 0, 0, 0, 0, 0] : List Int))) hS rfl rfl rfl rfl rfl rfl rfl (fun hb a w hS K hK => ?_) rfl fun a w hS => ?_
   ·refine zK hS rfl rfl rfl hb (Y6 (xs := LE) (g := (ci .i64)) (pre := []) (post := []) 0 rfl LF rfl (by simp) rfl (xx (g := (ci .i64)) (sz := 1) (fun _ => rfl) LH) Tryd.isAgg136 Tryd.sizeOf136) rfl fun a w hS => ?_
    refine zK hS rfl rfl rfl hb (DC (([0, (1 : Int), 0, 0, 0, 0, 0, 0, 0, 0, 0, 0, 0, 0, 0, 0] : List Int).flatMap (ci .i64)) Tryd.zeroValue136 Tryd.runUnderlying136 Tryd.sizeOf3 rfl (by kernel_rfl)) rfl fun a w hS => zK hS rfl rfl rfl hb (Gs rfl rfl Tryd.runUnderlying136 Tryd.runUnderlying3 Tryd.sizeOf3 Tryd.isAgg3 LH rfl Tryd.eqGuardType136 rfl) rfl fun a w hS => ?_
    exact zd (hK _ _ (hS.up 3 rfl rfl))
   refine qz <| qy hS rfl hM (fun LS hM => ?_) (fun LS hM => ?_)
   ·refine wp_seq ?_
    refine zI <| sA hS rfl fun hS => qz <| wp_ret <| qA ?_
    exact zm (rs := [2]) hS rfl rfl (hret (0 : Int) _ (qU hM) (hS.st.pick [] (by kernel_rfl)))
   ·refine wp_skip ?_
    refine qc <| qk <| sA hS rfl fun hS => qz <| wp_ret ?_
    exact zm (rs := [2]) hS rfl rfl (hret (3 : Int) _ (qU hM) (hS.st.pick [] (by kernel_rfl)))
theorem Qg {H : xU} {F : List qm} {w : World} {R : Ending → World → Prop} {kr : (List Int) → Prop} {kp : Value → Prop} (hG : Gl H) (K : Nat) (LE : List Int) (L0 : LE.length = 16)
    (hS : St w H [] F) (hm : (zS.m K LE).wp kr kp)
    (hret : ∀ (LT : (List Int)) (w : World), kr LT → (LT.length = 16) → St w H [] F → R (.returned (.agg ⟨LT.flatMap (ci .i64)⟩)) w) :
    Calls Tryd.prog 79 ⟨[.agg ⟨LE.flatMap (ci .i64)⟩]⟩ w R := by
 refine enter Tryd.func79 rfl Tryd.ntmps79 rfl hS fun a w hS => ?_
 have hM := hm; clear hm
 rw [zS.m] at hM
 refine qk <| bx (LE.flatMap (ci .i64)) hS rfl rfl rfl fun w L5 L6 LV hS => QJ ((List.replicate 16 (0 : Int)).flatMap (ci .i64)) hS Tryd.zeroValue136 rfl rfl fun w LI L7 LW hS => qz <| qk <| sA hS rfl fun hS => qz <| zx (fun a w => ∃ (LB : (List Int)) (LS : qm), Ss 20 [] [(2, qO LI 0)] H [LS] F a w ∧ (LB.length = 16) ∧ (xZ LS LI (LB.flatMap (ci .i64)) 136) ∧ (zS.j2 K LB).wp kr kp) (fun Ma LY => ?_) ?_
 ·refine wp_seq ?_
  refine zI <| sA hS rfl fun hS => qz <| xJ <| zv (fun L3 a w => ∃ (LC : (List Int)) (LN : qm) (LD : Int) (LG : Int), Ss 20 [] [(1, qO L5 0), (2, qO LI 0), (3, .int .i64 LD), (4, .int .i64 LG)] H [L6, LN] F a w ∧ (LC.length = 16) ∧ (xZ LN LI (LC.flatMap (ci .i64)) 136) ∧ (zS.l1 K LE L3 LC LD LG).wp kr kp) K ?_ ?_ ?_
  ·exact ⟨(List.replicate 16 (0 : Int)), L7, (0 : Int), (1 : Int), hS.to [1, 0] (by kernel_rfl) ⟨rfl, rfl, rfl, rfl, trivial⟩, (List.length_replicate ..), LW, hM⟩
  ·intro a w hI; obtain ⟨_, _, _, _, _, _, _, hM⟩ := hI; exact zr hM
  ·intro L3 a w hI L9 LX
   obtain ⟨LC, LN, LD, LG, hS, LL, LO, hM⟩ := hI
   rw [zS.l1] at hM
   refine wp_seq <| qk <| sM hS rfl fun hS => sB hS rfl fun hS => qz <| qy hS rfl hM (fun LZ hM => ?_) (fun LZ hM => ?_)
   ·refine wp_skip ?_
    refine qc <| wp_seq <| xJ <| qk <| sM hS rfl fun hS => sM hS rfl fun hS => sB hS rfl fun hS => ?_
    obtain ⟨LQ, hM⟩ := qE hM
    refine sO hS (DH rfl rfl Tryd.runUnderlying136 Tryd.sizeOf3 LQ) rfl fun hS => sO hS (GO (xs := LE) (g := (ci .i64)) (pre := []) (post := []) 0 rfl LV rfl (by simp) rfl (fun _ => rfl) (ul L0 LQ) rfl Tryd.isAgg3) rfl fun hS => sB hS rfl fun hS => sO hS (shl rfl rfl rfl) rfl fun hS => zH (v := Value.int .i64) (x0 := (xl .i64 (qi (LD + (rd LE (qi (LG - (1 : Int)))))) (1 : Int))) hS (xv rfl) rfl fun LH a w hz hS => ?_
    have hM := qB hz hM; clear hz
    refine qz <| zI <| sM hS rfl fun hS => sM hS rfl fun hS => ?_
    obtain ⟨LR, hM⟩ := qE hM
    refine sO hS (DH rfl rfl Tryd.runUnderlying136 Tryd.sizeOf3 LR) rfl fun hS => GS (xs := LC) (g := (ci .i64)) (pre := []) (post := []) 1 (LH) hS rfl rfl LO rfl (by simp) rfl (fun _ => rfl) (ul LL LR) rfl Tryd.sizeOf3 (xG _) fun LM w LU hz LJ hS => ?_
    have L1 : LM.length = 16 := by rw [hz, List.length_set]; exact LL
    have hM := qB hz hM; clear hz
    replace LJ : xZ LU LI (LM.flatMap (ci .i64)) 136 := by simpa using LJ
    refine zd <| zz (qc ?_)
    refine zI <| sM hS rfl fun hS => sB hS rfl fun hS => zH (v := Value.int .i64) (x0 := (qi (LG + (1 : Int)))) hS (xv rfl) rfl fun L4 a w hz hS => ?_
    have hM := qB hz hM; clear hz
    refine zd <| qc ?_
    exact LX _ _ ⟨LM, LU, LH, L4, hS.to [0, 1] (by kernel_rfl) ⟨rfl, rfl, rfl, rfl, trivial⟩, L1, LJ, hM⟩
   ·refine wp_exit ?_
    refine qC (qC (q9 (qc ?_)))
    exact LY _ _ ⟨LC, LN, hS.to [1] (by kernel_rfl) ⟨rfl, trivial⟩, LL, LO, hM⟩
 ·intro a w hI
  obtain ⟨LB, LS, hS, LF, LP, hM⟩ := hI
  rw [zS.j2] at hM
  refine qk <| sO hS (Y6 (xs := LB) (g := (ci .i64)) (pre := []) (post := []) 0 rfl LP rfl (by simp) rfl (xx (g := (ci .i64)) (sz := 1) (fun _ => rfl) LF) Tryd.isAgg136 Tryd.sizeOf136) rfl fun hS => Jl (xs := LB) (ys := LB) (g := (ci .i64)) (pre := []) (post := []) 0 hS rfl rfl LP rfl (by simp) rfl (xx (g := (ci .i64)) (sz := 1) (fun _ => rfl) LF) (xx (g := (ci .i64)) (sz := 1) (fun _ => rfl) LF) (xG) Tryd.sizeOf136 fun w L8 LK hS => ?_
  replace LK : xZ L8 LI (LB.flatMap (ci .i64)) 136 := by simpa using LK
  refine qz <| wp_ret ?_
  exact yB (vs := [.agg ⟨LB.flatMap (ci .i64)⟩]) hS rfl (by exact ⟨GE 0 rfl LK rfl (xx (g := (ci .i64)) (sz := 1) (fun _ => rfl) LF) Tryd.isAgg136 Tryd.sizeOf136, trivial⟩) (hret LB _ (qU hM) LF (hS.st.pick [] (by kernel_rfl)))
theorem YY {H : xU} {F : List qm} {w : World} {R : Ending → World → Prop} {kr : ((List Int) × Int) → Prop} {kp : Value → Prop} (hG : Gl H) (K : Nat) (LB : List Int) (LM : Option Addr) (LN : Nat) (LL : jn H [] F (ci .i64) LM LB) (LZ : LB.length ≤ LN)
    (hS : St w H [] F) (hm : (yf.m K LB).wp kr kp)
    (hret : ∀ (L8 : Option Addr) (L9 : Nat) (L7 : (List Int)) (Md : qm) (Mr : Int) (w : World), kr (L7, Mr) → (xh 3 (ci .i64) 1 L8 L7 L9 Md) → St w H [Md] F → R (.returned (.tuple ⟨[.slice L8 L7.length L9, .int .i64 Mr]⟩)) w) :
    Calls Tryd.prog 53 ⟨[.slice LM LB.length LN]⟩ w R := by
 refine enter Tryd.func53 rfl Tryd.ntmps53 rfl hS fun a w hS => ?_
 have hM := hm; clear hm
 rw [yf.m] at hM
 refine qk <| sA hS rfl fun hS => ?_
 obtain ⟨L4, My, hS⟩ := hS.nilV 3 (ci .i64) 1
 refine sA hS rfl fun hS => qz <| wp_seq <| qk <| sM hS rfl fun hS => qK hS rfl Tryd.call77 (YX hG K LB LM LN (LL.app _) LZ (hS.st.part 0 [0] (by kernel_rfl)) (qx hM) (fun Mx w hM  hst => qJ hS.ev hst.appF rfl fun hS => ?_))
 replace hS : Ss _ _ _ H [L4] F _ _ := hS
 refine sA hS rfl fun hS => qz <| qk <| sM hS rfl fun hS => sB hS rfl fun hS => qz <| qy hS rfl hM (fun Mk hM => ?_) (fun Mk hM => ?_)
 ·refine wp_seq ?_
  refine zI <| sM hS rfl fun hS => sA hS rfl fun hS => ?_
  obtain ⟨Mu, Mh, hS⟩ := hS.nilV 3 (ci .i64) 1
  refine sA hS rfl fun hS => qz <| wp_ret <| qA ?_
  exact zm (rs := [2, 3]) hS rfl rfl (hret none (0) ([] : List Int) Mu Mx _ (qU hM) Mh (hS.st.pick [0] (by kernel_rfl)))
 ·refine wp_skip ?_
  refine qc <| qk <| sM hS rfl fun hS => qK hS rfl Tryd.call78 (Zd hG K LB LM LN (LL.app _) LZ (hS.st.part 0 [0] (by kernel_rfl)) (qx hM) (fun LX MC w hM L5 hst => qJ hS.ev hst.appF rfl fun hS => ?_))
  replace hS : Ss _ _ _ H [L4] F _ _ := hS
  refine sM hS rfl fun hS => sO hS (ex rfl rfl) rfl fun hS => sO hS (ex rfl rfl) rfl fun hS => QJ ((List.replicate 16 (0 : Int)).flatMap (ci .i64)) hS Tryd.zeroValue136 rfl rfl fun w Mt MA Mf hS => Jl (xs := (List.replicate 16 (0 : Int))) (ys := LX) (g := (ci .i64)) (pre := []) (post := []) 0 hS rfl rfl Mf rfl (by simp) rfl (xx (g := (ci .i64)) (sz := 1) (fun _ => rfl) (List.length_replicate ..)) (xx (g := (ci .i64)) (sz := 1) (fun _ => rfl) L5) (xG) Tryd.sizeOf136 fun w Ma LP hS => ?_
  replace LP : xZ Ma Mt (LX.flatMap (ci .i64)) 136 := by simpa using LP
  refine sA hS rfl fun hS => qz <| qk <| sO hS (Y6 (xs := LX) (g := (ci .i64)) (pre := []) (post := []) 0 rfl LP rfl (by simp) rfl (xx (g := (ci .i64)) (sz := 1) (fun _ => rfl) L5) Tryd.isAgg136 Tryd.sizeOf136) rfl fun hS => qK hS rfl Tryd.call79 (Qg hG K LX L5 (hS.st.part 0 [0, 1] (by kernel_rfl)) (qx hM) (fun L6 w hM Me hst => qJ hS.ev hst.appF rfl fun hS => ?_))
  replace hS : Ss _ _ _ H [Ma, L4] F _ _ := hS
  refine QJ ((List.replicate 16 (0 : Int)).flatMap (ci .i64)) hS Tryd.zeroValue136 rfl rfl fun w LV MB Mg hS => Jl (xs := (List.replicate 16 (0 : Int))) (ys := L6) (g := (ci .i64)) (pre := []) (post := []) 0 hS rfl rfl Mg rfl (by simp) rfl (xx (g := (ci .i64)) (sz := 1) (fun _ => rfl) (List.length_replicate ..)) (xx (g := (ci .i64)) (sz := 1) (fun _ => rfl) Me) (xG) Tryd.sizeOf136 fun w Mb LQ hS => ?_
  replace LQ : xZ Mb LV (L6.flatMap (ci .i64)) 136 := by simpa using LQ
  refine qz <| qk <| sM hS rfl fun hS => sO hS (ya rfl Tryd.runUnderlying45) rfl fun hS => ?_
  obtain ⟨Mn, hM⟩ := qE hM
  refine Ui (g := (ci .i64)) (m := (LB.length : Int)) (0 : Int) hS rfl rfl (by simp) Tryd.runUnderlying45 X.el3 (fun w => ⟨_, Tryd.zeroValue3 w, rfl⟩) (fun _ => rfl) rfl rfl Mn rfl fun Ms w LG LH Mv hz Mi hS => ?_
  have hM := qB hz hM; clear hz
  refine sA hS rfl fun hS => qz <| wp_seq <| qk <| sM hS rfl fun hS => sO hS (ya rfl Tryd.runUnderlying45) rfl fun hS => sM hS rfl fun hS => qz <| xJ <| zv (fun Mq a w => ∃ (LC : (List Int)) (LW : qm) (LD : (List Int)) (LO : qm) (LI : Int), Ss 48 [] [(7, qO LV 0), (8, .slice LG LD.length LH), (26, .slice LM LB.length LN), (27, .int .i64 (LB.length : Int)), (28, .int .i64 LI)] H [LW, LO] F a w ∧ (LC.length = 16) ∧ (xZ LW LV (LC.flatMap (ci .i64)) 136) ∧ (xh 3 (ci .i64) 1 LG LD LH LO) ∧ (yf.l1 K LB Mq LC LD LI).wp kr kp) K ?_ ?_ ?_
  ·exact ⟨L6, Mb, Ms, Mv, (0 : Int), hS.to [1, 0] (by kernel_rfl) ⟨rfl, rfl, rfl, rfl, rfl, trivial⟩, Me, LQ, Mi, hM⟩
  ·intro a w hI; obtain ⟨_, _, _, _, _, _, _, _, _, hM⟩ := hI; exact zr hM
  ·intro Mq a w hI Mz LY
   obtain ⟨LC, LW, LD, LO, LI, hS, LF, LJ, LK, hM⟩ := hI
   rw [yf.l1] at hM
   refine qk <| sB hS rfl fun hS => qz <| wp_seq <| qy hS rfl hM (fun Ml hM => ?_) (fun Ml hM => ?_)
   ·refine wp_skip ?_
    refine qc <| wp_seq <| xJ <| qk <| sM hS rfl fun hS => ?_
    obtain ⟨L0, hM⟩ := qE hM
    refine sO hS (x6 rfl rfl Tryd.runUnderlying45 Tryd.sizeOf3 LL.wk (fun _ => rfl) rfl L0) rfl fun hS => sO hS (x9 rfl LL.wk (fun _ => rfl) L0 rfl Tryd.isAgg3) rfl fun hS => sA hS rfl fun hS => zH (v := Value.int .i64) (x0 := (rd LB LI)) hS (xv rfl) rfl fun LS a w hz hS => ?_
    have hM := qB hz hM; clear hz
    refine qz <| qk <| sM hS rfl fun hS => sB hS rfl fun hS => qz <| qy hS rfl hM (fun Mm hM => ?_) (fun Mm hM => ?_)
    ·refine wp_seq ?_
     refine zI <| sM hS rfl fun hS => sM hS rfl fun hS => sM hS rfl fun hS => ?_
     obtain ⟨LE, hM⟩ := qE hM
     refine sO hS (DH rfl rfl Tryd.runUnderlying136 Tryd.sizeOf3 LE) rfl fun hS => sO hS (GO (xs := LC) (g := (ci .i64)) (pre := []) (post := []) 0 rfl LJ rfl (by simp) rfl (fun _ => rfl) (ul LF LE) rfl Tryd.isAgg3) rfl fun hS => ?_
     obtain ⟨L1, hM⟩ := qE hM
     refine sO hS (x6 rfl rfl Tryd.runUnderlying45 Tryd.sizeOf3 (LK.rd (i := 1) rfl) (fun _ => rfl) rfl L1) rfl fun hS => Xj (i := LI) (sz := 1) 1 0 ((rd LC LS)) hS rfl rfl LK rfl Tryd.sizeOf3 (xG (rd LC LS)) (fun _ => rfl) L1 rfl rfl fun LT w Mw hz L3 Mj hS => ?_
     have hM := qB hz hM; clear hz
     replace hS := hS.re 8 (u := .slice LG LD.length LH) (v := .slice LG LT.length LH) rfl (by rw [L3])
     replace hS := hS.re 35 (u := .slice LG LD.length LH) (v := .slice LG LT.length LH) rfl (by rw [L3])
     refine qz <| zI <| sM hS rfl fun hS => sO hS (DH rfl rfl Tryd.runUnderlying136 Tryd.sizeOf3 LE) rfl fun hS => sO hS (GO (xs := LC) (g := (ci .i64)) (pre := []) (post := []) 0 rfl LJ rfl (by simp) rfl (fun _ => rfl) (ul LF LE) rfl Tryd.isAgg3) rfl fun hS => sB hS rfl fun hS => sO hS (DH rfl rfl Tryd.runUnderlying136 Tryd.sizeOf3 LE) rfl fun hS => GS (xs := LC) (g := (ci .i64)) (pre := []) (post := []) 0 ((qi ((rd LC LS) + (1 : Int)))) hS rfl rfl LJ rfl (by simp) rfl (fun _ => rfl) (ul LF LE) rfl Tryd.sizeOf3 (xG _) fun LU w Mc hz LR hS => ?_
     have Mp : LU.length = 16 := by rw [hz, List.length_set]; exact LF
     have hM := qB hz hM; clear hz
     replace LR : xZ Mc LV (LU.flatMap (ci .i64)) 136 := by simpa using LR
     refine zd <| zz (qc ?_)
     refine zI <| sB hS rfl fun hS => sM hS rfl fun hS => zd <| qc ?_
     exact LY _ _ ⟨LU, Mc, LT, Mw, (qi (LI + (1 : Int))), hS.to [0, 1] (by kernel_rfl) ⟨rfl, rfl, rfl, rfl, rfl, trivial⟩, Mp, LR, Mj, hM⟩
    ·refine wp_skip ?_
     refine zz (qc ?_)
     refine zI <| sB hS rfl fun hS => sM hS rfl fun hS => zd <| qc ?_
     exact LY _ _ ⟨LC, LW, LD, LO, (qi (LI + (1 : Int))), hS.to [0, 1] (by kernel_rfl) ⟨rfl, rfl, rfl, rfl, rfl, trivial⟩, LF, LJ, LK, hM⟩
   ·refine wp_exit ?_
    refine qC (qC (q9 (qc ?_)))
    refine qk <| sM hS rfl fun hS => sA hS rfl fun hS => sA hS rfl fun hS => qz <| wp_ret ?_
    exact zm (rs := [2, 3]) hS rfl rfl (hret LG LH LD LO (0 : Int) _ (qU hM) LK (hS.st.pick [1] (by kernel_rfl)))
theorem yR {H : xU} {F : List qm} {w : World} {R : Ending → World → Prop} {kr : (List Int) → Prop} {kp : Value → Prop} (hG : Gl H) (K : Nat) (LB : List Int) (LD : Option Addr) (LE : Nat) (LP : jn H [] F (ci .i64) LD LB) (LO : LB.length ≤ LE)
    (hS : St w H [] F) (hm : (yh.m K LB).wp kr kp)
    (hret : ∀ (LI : Option Addr) (LJ : Nat) (LC : (List Int)) (LL : qm) (w : World), kr LC → (xh 3 (ci .i64) 1 LI LC LJ LL) → St w H [LL] F → R (.returned (.agg ⟨[.slice LD LB.length LE, .slice LI LC.length LJ]⟩)) w) :
    Calls Tryd.prog 37 ⟨[.slice LD LB.length LE]⟩ w R := by
 refine enter Tryd.func37 rfl Tryd.ntmps37 rfl hS fun a w hS => ?_
 have hM := hm; clear hm
 rw [yh.m] at hM
 refine qk <| QJ ([.slice none 0 0, .slice none 0 0]) hS Tryd.zeroValue47 rfl rfl fun w LW LQ LM hS => ?_
 obtain ⟨LR, LU, hS⟩ := hS.nilV 3 (ci .i64) 1
 obtain ⟨LS, LV, hS⟩ := hS.nilV 3 (ci .i64) 1
 refine qz <| qk <| sM hS rfl fun hS => qK hS rfl Tryd.call53 (YY hG K LB LD LE (LP.app _) LO (hS.st.part 0 [0, 1, 2] (by kernel_rfl)) (qx hM) (fun LF LG LH LK LY w hM LT hst => qJ hS.ev hst.appF rfl fun hS => ?_))
 replace hS : Ss _ _ _ H [LK, LS, LR, LQ] F _ _ := hS
 refine sM hS rfl fun hS => sO hS (ex rfl rfl) rfl fun hS => sO hS (ex rfl rfl) rfl fun hS => sA hS rfl fun hS => sA hS rfl fun hS => qz <| qk <| sM hS rfl fun hS => sM hS rfl fun hS => sO hS (Zq ([.slice LD LB.length LE, .slice LF LH.length LG]) [(0, 1), (1, 1)] Tryd.zeroValue47 Tryd.runUnderlying47 (by intro w; simp [Tryd.sizeOf45]) rfl rfl) rfl fun hS => u5 3 ([.slice LD LB.length LE, .slice LF LH.length LG]) ([.slice LD LB.length LE, .slice LF LH.length LG]) hS rfl rfl LM rfl rfl Tryd.sizeOf47 (by simp [Value.oneCell']) (Nat.le_of_ble_eq_true rfl) rfl fun w LX LN hS => qz <| wp_ret ?_
 exact yB (vs := [.agg ⟨[.slice LD LB.length LE, .slice LF LH.length LG]⟩]) hS rfl (by exact ⟨Jp 3 ([.slice LD LB.length LE, .slice LF LH.length LG]) rfl LN rfl rfl rfl Tryd.isAgg47 Tryd.sizeOf47, trivial⟩) (hret LF LG LH LK _ (qU hM) LT (hS.st.pick [0] (by kernel_rfl)))
theorem Qk {H : xU} {F : List qm} {w : World} {R : Ending → World → Prop} {kr : ((List Int) × (List Int) × (List Int) × (List Int)) → Prop} {kp : Value → Prop} (hG : Gl H) (K : Nat)
    (hS : St w H [] F) (hm : (q8.m K).wp kr kp)
    (hret : ∀ (Ms : Option Addr) (Mw : Nat) (LH : (List Int)) (MB : qm) (Mt : Option Addr) (Mx : Nat) (LM : (List Int)) (MC : qm) (Mu : Option Addr) (My : Nat) (LI : (List Int)) (MD : qm) (Mv : Option Addr) (Mz : Nat) (LN : (List Int)) (ME : qm) (w : World), kr (LH, LM, LI, LN) → (xh 3 (ci .i64) 1 Ms LH Mw MB) → (xh 3 (ci .i64) 1 Mt LM Mx MC) → (xh 3 (ci .i64) 1 Mu LI My MD) → (xh 3 (ci .i64) 1 Mv LN Mz ME) → St w H [MB, MC, MD, ME] F → R (.returned (.tuple ⟨[.agg ⟨[.slice Ms LH.length Mw, .slice Mt LM.length Mx]⟩, .agg ⟨[.slice Mu LI.length My, .slice Mv LN.length Mz]⟩]⟩)) w) :
    Calls Tryd.prog 22 ⟨[]⟩ w R := by
 refine enter Tryd.func22 rfl Tryd.ntmps22 rfl hS fun a w hS => ?_
 have hM := hm; clear hm
 rw [q8.m] at hM
 refine qk <| QJ ([.slice none 0 0, .slice none 0 0]) hS Tryd.zeroValue47 rfl rfl fun w MZ Mq Na hS => ?_
 obtain ⟨Mr, Nb, hS⟩ := hS.nilV 3 (ci .i64) 1
 obtain ⟨LS, Nc, hS⟩ := hS.nilV 3 (ci .i64) 1
 refine QJ ([.slice none 0 0, .slice none 0 0]) hS Tryd.zeroValue47 rfl rfl fun w Md LT MF hS => ?_
 obtain ⟨LU, Nd, hS⟩ := hS.nilV 3 (ci .i64) 1
 obtain ⟨LV, Nf, hS⟩ := hS.nilV 3 (ci .i64) 1
 refine qz <| wp_seq <| zI ?_
 obtain ⟨MV, hM⟩ := qE hM
 refine Ui (g := (ci .i64)) (m := (288 : Int)) (0 : Int) hS rfl rfl (by simp) Tryd.runUnderlying45 X.el3 (fun w => ⟨_, Tryd.zeroValue3 w, rfl⟩) (fun _ => rfl) rfl rfl MV rfl fun L7 w LB LC M0 hz ML hS => ?_
 have hM := qB hz hM; clear hz
 refine sA hS rfl fun hS => qz <| zx (fun a w => ∃ (LD : (List Int)) (LQ : qm), Ss 46 [] [(0, qO MZ 0), (1, qO Md 0), (2, .slice LB LD.length LC)] H [Mq, Mr, LS, LT, LU, LV, LQ] F a w ∧ (xh 3 (ci .i64) 1 LB LD LC LQ) ∧ (q8.j2 K LD).wp kr kp) (fun Nh MI => ?_) ?_
 ·refine wp_seq ?_
  refine zI <| sM hS rfl fun hS => sO hS (ya rfl Tryd.runUnderlying45) rfl fun hS => sM hS rfl fun hS => qz <| xJ <| zv (fun MX a w => ∃ (LG : (List Int)) (Me : qm) (LL : Int), Ss 46 [] [(0, qO MZ 0), (1, qO Md 0), (2, .slice LB LG.length LC), (8, .int .i64 (L7.length : Int)), (9, .int .i64 LL)] H [Mq, Mr, LS, LT, LU, LV, Me] F a w ∧ (xh 3 (ci .i64) 1 LB LG LC Me) ∧ (q8.l1 K L7 MX LG LL).wp kr kp) K ?_ ?_ ?_
  ·exact ⟨L7, M0, (0 : Int), hS.to [6, 5, 4, 3, 2, 1, 0] (by kernel_rfl) ⟨rfl, rfl, rfl, rfl, rfl, trivial⟩, ML, hM⟩
  ·intro a w hI; obtain ⟨_, _, _, _, _, hM⟩ := hI; exact zr hM
  ·intro MX a w hI Ng L1
   obtain ⟨LG, Me, LL, hS, LO, hM⟩ := hI
   rw [q8.l1] at hM
   refine qk <| sB hS rfl fun hS => qz <| wp_seq <| qy hS rfl hM (fun MR hM => ?_) (fun MR hM => ?_)
   ·refine wp_skip ?_
    refine qc <| wp_seq <| xJ <| qk <| sM hS rfl fun hS => sA hS rfl fun hS => qz <| xJ <| qk <| sM hS rfl fun hS => sB hS rfl fun hS => sM hS rfl fun hS => yw 2 false 18 (b := (decide (LL < (144 : Int)))) (r := (decide (LL ≥ (280 : Int)))) hS rfl rfl rfl rfl rfl rfl rfl (fun hb a w hS K hK => ?_) rfl fun a w hS => ?_
    ·refine zK hS rfl rfl rfl hb (mv rfl) rfl fun a w hS => ?_
     refine zK hS rfl rfl rfl hb (yZ rfl rfl rfl) rfl fun a w hS => ?_
     exact zd (hK _ _ (hS.up 2 rfl rfl))
    refine zH (v := Value.bool) (x0 := ((decide (LL < (144 : Int))) || (decide (LL ≥ (280 : Int))))) hS (xv rfl) rfl fun Nm a w hz hS => ?_
    have hM := qB hz hM; clear hz
    refine qz <| qy hS rfl hM (fun MS hM => ?_) (fun MS hM => ?_)
    ·refine zI ?_
     refine sM hS rfl fun hS => sM hS rfl fun hS => ?_
     obtain ⟨Mg, hM⟩ := qE hM
     refine sO hS (x6 rfl rfl Tryd.runUnderlying45 Tryd.sizeOf3 (LO.rd (i := 6) rfl) (fun _ => rfl) rfl Mg) rfl fun hS => Xj (i := LL) (sz := 1) 6 0 ((8 : Int)) hS rfl rfl LO rfl Tryd.sizeOf3 (xG (8 : Int)) (fun _ => rfl) Mg rfl rfl fun L8 w M3 hz Mk MM hS => ?_
     have hM := qB hz hM; clear hz
     replace hS := hS.re 2 (u := .slice LB LG.length LC) (v := .slice LB L8.length LC) rfl (by rw [Mk])
     replace hS := hS.re 22 (u := .slice LB LG.length LC) (v := .slice LB L8.length LC) rfl (by rw [Mk])
     refine zd <| zz (zz (qc ?_))
     refine zI <| sB hS rfl fun hS => sM hS rfl fun hS => zd <| qc ?_
     exact L1 _ _ ⟨L8, M3, (qi (LL + (1 : Int))), hS.to [0, 1, 2, 3, 4, 5, 6] (by kernel_rfl) ⟨rfl, rfl, rfl, rfl, rfl, trivial⟩, MM, hM⟩
    ·refine wp_seq ?_
     refine zI <| sM hS rfl fun hS => sB hS rfl fun hS => zH (v := Value.bool) (x0 := (decide (LL < (256 : Int)))) hS (xv rfl) rfl fun Nn a w hz hS => ?_
     have hM := qB hz hM; clear hz
     refine qz <| qy hS rfl hM (fun MT hM => ?_) (fun MT hM => ?_)
     ·refine zI ?_
      refine sM hS rfl fun hS => sM hS rfl fun hS => ?_
      obtain ⟨Mh, hM⟩ := qE hM
      refine sO hS (x6 rfl rfl Tryd.runUnderlying45 Tryd.sizeOf3 (LO.rd (i := 6) rfl) (fun _ => rfl) rfl Mh) rfl fun hS => Xj (i := LL) (sz := 1) 6 0 ((9 : Int)) hS rfl rfl LO rfl Tryd.sizeOf3 (xG (9 : Int)) (fun _ => rfl) Mh rfl rfl fun L9 w M4 hz Ml MN hS => ?_
      have hM := qB hz hM; clear hz
      replace hS := hS.re 2 (u := .slice LB LG.length LC) (v := .slice LB L9.length LC) rfl (by rw [Ml])
      replace hS := hS.re 28 (u := .slice LB LG.length LC) (v := .slice LB L9.length LC) rfl (by rw [Ml])
      refine zd <| zz (zz (qc ?_))
      refine zI <| sB hS rfl fun hS => sM hS rfl fun hS => zd <| qc ?_
      exact L1 _ _ ⟨L9, M4, (qi (LL + (1 : Int))), hS.to [0, 1, 2, 3, 4, 5, 6] (by kernel_rfl) ⟨rfl, rfl, rfl, rfl, rfl, trivial⟩, MN, hM⟩
     ·refine zI ?_
      refine sM hS rfl fun hS => sM hS rfl fun hS => ?_
      obtain ⟨Mi, hM⟩ := qE hM
      refine sO hS (x6 rfl rfl Tryd.runUnderlying45 Tryd.sizeOf3 (LO.rd (i := 6) rfl) (fun _ => rfl) rfl Mi) rfl fun hS => Xj (i := LL) (sz := 1) 6 0 ((7 : Int)) hS rfl rfl LO rfl Tryd.sizeOf3 (xG (7 : Int)) (fun _ => rfl) Mi rfl rfl fun Ma w M5 hz Mm MO hS => ?_
      have hM := qB hz hM; clear hz
      replace hS := hS.re 2 (u := .slice LB LG.length LC) (v := .slice LB Ma.length LC) rfl (by rw [Mm])
      replace hS := hS.re 12 (u := .slice LB LG.length LC) (v := .slice LB Ma.length LC) rfl (by rw [Mm])
      refine zd <| zz (zz (qc ?_))
      refine zI <| sB hS rfl fun hS => sM hS rfl fun hS => zd <| qc ?_
      exact L1 _ _ ⟨Ma, M5, (qi (LL + (1 : Int))), hS.to [0, 1, 2, 3, 4, 5, 6] (by kernel_rfl) ⟨rfl, rfl, rfl, rfl, rfl, trivial⟩, MO, hM⟩
   ·refine wp_exit ?_
    refine qC (qC (q9 (qc ?_)))
    exact MI _ _ ⟨LG, Me, hS.to [0, 1, 2, 3, 4, 5, 6] (by kernel_rfl) ⟨rfl, rfl, rfl, trivial⟩, LO, hM⟩
 ·intro a w hI
  obtain ⟨LD, LQ, hS, L3, hM⟩ := hI
  rw [q8.j2] at hM
  refine wp_seq <| zI ?_
  obtain ⟨MW, hM⟩ := qE hM
  refine Ui (g := (ci .i64)) (m := (32 : Int)) (0 : Int) hS rfl rfl (by simp) Tryd.runUnderlying45 X.el3 (fun w => ⟨_, Tryd.zeroValue3 w, rfl⟩) (fun _ => rfl) rfl rfl MW rfl fun Mb w LJ LK M6 hz MP hS => ?_
  have hM := qB hz hM; clear hz
  refine sA hS rfl fun hS => qz <| zx (fun a w => ∃ (LP : (List Int)) (LW : qm), Ss 46 [] [(0, qO MZ 0), (1, qO Md 0), (2, .slice LB LD.length LC), (4, .slice LJ LP.length LK)] H [Mq, Mr, LS, LT, LU, LV, LQ, LW] F a w ∧ (xh 3 (ci .i64) 1 LJ LP LK LW) ∧ (q8.j4 K LD LP).wp kr kp) (fun Nj MK => ?_) ?_
  ·refine wp_seq ?_
   refine zI <| sM hS rfl fun hS => sO hS (ya rfl Tryd.runUnderlying45) rfl fun hS => sM hS rfl fun hS => qz <| xJ <| zv (fun MY a w => ∃ (LR : (List Int)) (Mf : qm) (L6 : Int), Ss 46 [] [(0, qO MZ 0), (1, qO Md 0), (2, .slice LB LD.length LC), (4, .slice LJ LR.length LK), (34, .int .i64 (Mb.length : Int)), (35, .int .i64 L6)] H [Mq, Mr, LS, LT, LU, LV, LQ, Mf] F a w ∧ (xh 3 (ci .i64) 1 LJ LR LK Mf) ∧ (q8.l3 K LD Mb MY LR L6).wp kr kp) K ?_ ?_ ?_
   ·exact ⟨Mb, M6, (0 : Int), hS.to [1, 2, 3, 4, 5, 6, 7, 0] (by kernel_rfl) ⟨rfl, rfl, rfl, rfl, rfl, rfl, trivial⟩, MP, hM⟩
   ·intro a w hI; obtain ⟨_, _, _, _, _, hM⟩ := hI; exact zr hM
   ·intro MY a w hI Ni MJ
    obtain ⟨LR, Mf, L6, hS, L4, hM⟩ := hI
    rw [q8.l3] at hM
    refine qk <| sB hS rfl fun hS => qz <| wp_seq <| qy hS rfl hM (fun MU hM => ?_) (fun MU hM => ?_)
    ·refine wp_skip ?_
     refine qc <| wp_seq <| xJ <| qk <| sM hS rfl fun hS => sA hS rfl fun hS => qz <| zI <| sM hS rfl fun hS => sM hS rfl fun hS => ?_
     obtain ⟨Mj, hM⟩ := qE hM
     refine sO hS (x6 rfl rfl Tryd.runUnderlying45 Tryd.sizeOf3 (L4.rd (i := 7) rfl) (fun _ => rfl) rfl Mj) rfl fun hS => Xj (i := L6) (sz := 1) 7 0 ((5 : Int)) hS rfl rfl L4 rfl Tryd.sizeOf3 (xG (5 : Int)) (fun _ => rfl) Mj rfl rfl fun Mc w M7 hz Mn MQ hS => ?_
     have hM := qB hz hM; clear hz
     replace hS := hS.re 4 (u := .slice LJ LR.length LK) (v := .slice LJ Mc.length LK) rfl (by rw [Mn])
     replace hS := hS.re 38 (u := .slice LJ LR.length LK) (v := .slice LJ Mc.length LK) rfl (by rw [Mn])
     refine zd <| zz (qc ?_)
     refine zI <| sB hS rfl fun hS => sM hS rfl fun hS => zd <| qc ?_
     exact MJ _ _ ⟨Mc, M7, (qi (L6 + (1 : Int))), hS.to [0, 1, 2, 3, 4, 5, 6, 7] (by kernel_rfl) ⟨rfl, rfl, rfl, rfl, rfl, rfl, trivial⟩, MQ, hM⟩
    ·refine wp_exit ?_
     refine qC (qC (q9 (qc ?_)))
     exact MK _ _ ⟨LR, Mf, hS.to [0, 1, 2, 3, 4, 5, 6, 7] (by kernel_rfl) ⟨rfl, rfl, rfl, rfl, trivial⟩, L4, hM⟩
  ·intro a w hI
   obtain ⟨LP, LW, hS, L5, hM⟩ := hI
   rw [q8.j4] at hM
   refine qk <| sM hS rfl fun hS => qK hS rfl Tryd.call37 (yR hG K LD LB LC (L3.rdF (i := 6) rfl) (L3.cap (fun _ => rfl) rfl) (hS.st.part 0 [0, 1, 2, 3, 4, 5, 6, 7] (by kernel_rfl)) (qx hM) (fun LX LZ LE Mp w hM M8 hst => qJ hS.ev hst.appF rfl fun hS => ?_))
   replace hS : Ss _ _ _ H [Mp, Mq, Mr, LS, LT, LU, LV, LQ, LW] F _ _ := hS
   refine sM hS rfl fun hS => qK hS rfl Tryd.call37 (yR hG K LP LJ LK (L5.rdF (i := 8) rfl) (L5.cap (fun _ => rfl) rfl) (hS.st.part 0 [0, 1, 2, 3, 4, 5, 6, 7, 8] (by kernel_rfl)) (qx hM) (fun LY L0 LF MA w hM M9 hst => qJ hS.ev hst.appF rfl fun hS => ?_))
   replace hS : Ss _ _ _ H [MA, Mp, Mq, Mr, LS, LT, LU, LV, LQ, LW] F _ _ := hS
   refine u5 2 ([.slice LB LD.length LC, .slice LX LE.length LZ]) ([.slice LB LD.length LC, .slice LX LE.length LZ]) hS rfl rfl Na rfl rfl Tryd.sizeOf47 (by simp [Value.oneCell']) (Nat.le_of_ble_eq_true rfl) rfl fun w Nk MG hS => u5 5 ([.slice LJ LP.length LK, .slice LY LF.length L0]) ([.slice LJ LP.length LK, .slice LY LF.length L0]) hS rfl rfl MF rfl rfl Tryd.sizeOf47 (by simp [Value.oneCell']) (Nat.le_of_ble_eq_true rfl) rfl fun w Nl MH hS => qz <| wp_ret ?_
   exact yB (vs := [.agg ⟨[.slice LB LD.length LC, .slice LX LE.length LZ]⟩, .agg ⟨[.slice LJ LP.length LK, .slice LY LF.length L0]⟩]) hS rfl (by exact ⟨Jp 2 ([.slice LB LD.length LC, .slice LX LE.length LZ]) rfl MG rfl rfl rfl Tryd.isAgg47 Tryd.sizeOf47, Jp 5 ([.slice LJ LP.length LK, .slice LY LF.length L0]) rfl MH rfl rfl rfl Tryd.isAgg47 Tryd.sizeOf47, trivial⟩) (hret LB LC LD LQ LX LZ LE Mp LJ LK LP LW LY L0 LF MA _ (qU hM) L3 M8 L5 M9 (hS.st.pick [8, 1, 9, 0] (by kernel_rfl)))
theorem zk {H : xU} {F : List qm} {w : World} {R : Ending → World → Prop} {kr : (Int × Int × (List Int)) → Prop} {kp : Value → Prop} (hG : Gl H) (K : Nat) (LC : qp) (Mg : Int) (LK : Int) (LF : Nat) (Md : qm) (Mb : Option Addr) (Mc : Nat) (Me : qm) (LM : Option Addr) (LQ : Nat) (L3 : qm) (LN : Option Addr) (LR : Nat) (L4 : qm) (LO : Option Addr) (LS : Nat) (L5 : qm) (LP : Option Addr) (LT : Nat) (L6 : qm) (Mh : xZ Md LF ([.int .i64 LC.Writer_.place_.at_, .slice Mb LC.Writer_.bytes_.length Mc, .slice LM LC.literals_.lengths_.length LQ, .slice LN LC.literals_.codes_.length LR, .slice LO LC.distances_.lengths_.length LS, .slice LP LC.distances_.codes_.length LT]) 49) (Mk : xh 5 (ci .u8) 1 Mb LC.Writer_.bytes_ Mc Me) (MR : xh 3 (ci .i64) 1 LM LC.literals_.lengths_ LQ L3) (MS : xh 3 (ci .i64) 1 LN LC.literals_.codes_ LR L4) (MT : xh 3 (ci .i64) 1 LO LC.distances_.lengths_ LS L5) (MU : xh 3 (ci .i64) 1 LP LC.distances_.codes_ LT L6)
    (hS : St w H [Md, Me, L3, L4, L5, L6] F) (hm : (qn.m K LC Mg LK).wp kr kp)
    (hret : ∀ (ML : Int) (L0 : Int) (Mr : Option Addr) (Mt : Nat) (LL : (List Int)) (Mu : qm) (Mv : qm) (w : World), kr (ML, L0, LL) → (xh 5 (ci .u8) 1 Mr LL Mt Mu) → (xZ Mv LF ([.int .i64 L0, .slice Mr LL.length Mt, .slice LM LC.literals_.lengths_.length LQ, .slice LN LC.literals_.codes_.length LR, .slice LO LC.distances_.lengths_.length LS, .slice LP LC.distances_.codes_.length LT]) 49) → St w H [Mv, Mu, L3, L4, L5, L6] F → R (.returned (.int .i64 ML)) w) :
    Calls Tryd.prog 23 ⟨[qO LF 0, .int .u32 Mg, .int .i64 LK]⟩ w R := by
 refine enter Tryd.func23 rfl Tryd.ntmps23 rfl hS fun a w hS => ?_
 have hM := hm; clear hm
 rw [qn.m] at hM
 refine qk <| sA hS rfl fun hS => qz <| wp_seq <| qk <| sM hS rfl fun hS => sO hS (DE rfl rfl Tryd.runUnderlying103) rfl fun hS => sM hS rfl fun hS => zK hS rfl rfl rfl rfl (mv rfl) rfl fun a w hS => zK hS rfl rfl rfl rfl (yZ rfl rfl rfl) rfl fun a w hS => sO hS (pk rfl rfl rfl) rfl fun hS => sM hS rfl fun hS => yw 2 false 14 (b := (decide (LK < (0 : Int)))) (r := (decide (LK > (32 : Int)))) hS rfl rfl rfl rfl rfl rfl rfl (fun hb a w hS K hK => ?_) rfl fun a w hS => ?_
 ·refine zK hS rfl rfl rfl hb (mv rfl) rfl fun a w hS => ?_
  refine zK hS rfl rfl rfl hb (yZ rfl rfl rfl) rfl fun a w hS => ?_
  exact zd (hK _ _ (hS.up 2 rfl rfl))
 refine sM hS rfl fun hS => ?_
 obtain ⟨MG, hM⟩ := qE hM
 refine yw 5 false 18 (b := ((decide (LK < (0 : Int))) || (decide (LK > (32 : Int))))) (r := (decide ((xF .u64 (wr .u64 Mg) LK) > (0 : Int)))) hS rfl rfl rfl rfl rfl rfl rfl (fun hb a w hS K hK => ?_) rfl fun a w hS => ?_
 ·refine zK hS rfl rfl rfl hb (mv rfl) rfl fun a w hS => ?_
  refine zK hS rfl rfl rfl hb (vH rfl Tryd.runUnderlying53 Tryd.runUnderlying104) rfl fun a w hS => zK hS rfl rfl rfl hb (mv rfl) rfl fun a w hS => ?_
  have MF := Vt MG hb
  refine zK hS rfl rfl rfl hb (shr rfl rfl MF) rfl fun a w hS => zK hS rfl rfl rfl hb (yZ rfl rfl rfl) rfl fun a w hS => ?_
  exact zd (hK _ _ (hS.up 5 rfl rfl))
 refine qz <| qy hS rfl hM (fun MC hM => ?_) (fun MC hM => ?_)
 ·refine wp_seq ?_
  refine zI <| sA hS rfl fun hS => qz <| wp_ret <| qA ?_
  exact zm (rs := [6]) hS rfl rfl (hret (1 : Int) LC.Writer_.place_.at_ Mb Mc LC.Writer_.bytes_ Me Md _ (qU hM) Mk Mh (hS.st.pick [0, 1, 2, 3, 4, 5] (by kernel_rfl)))
 ·refine wp_skip ?_
  refine qc <| wp_seq <| xJ <| zv (fun Mp a w => ∃ (LB : Int) (LZ : Option Addr) (L1 : Nat) (LG : (List Int)) (L7 : qm) (L8 : qm) (LH : Int) (LI : Int), Ss 95 [] [(0, qO LF 0), (1, .int .u32 LH), (2, .int .i64 LI)] H [L8, L7, L3, L4, L5, L6] F a w ∧ (xh 5 (ci .u8) 1 LZ LG L1 L7) ∧ (xZ L8 LF ([.int .i64 LB, .slice LZ LG.length L1, .slice LM LC.literals_.lengths_.length LQ, .slice LN LC.literals_.codes_.length LR, .slice LO LC.distances_.lengths_.length LS, .slice LP LC.distances_.codes_.length LT]) 49) ∧ (qn.l1 K Mp LB LG LH LI).wp kr kp) K ?_ ?_ ?_
  ·exact ⟨LC.Writer_.place_.at_, Mb, Mc, LC.Writer_.bytes_, Me, Md, Mg, LK, hS.to [0, 1, 2, 3, 4, 5] (by kernel_rfl) ⟨rfl, rfl, rfl, trivial⟩, Mk, Mh, hM⟩
  ·intro a w hI; obtain ⟨_, _, _, _, _, _, _, _, _, _, _, hM⟩ := hI; exact zr hM
  ·intro Mp a w hI MX My
   obtain ⟨LB, LZ, L1, LG, L7, L8, LH, LI, hS, L9, LV, hM⟩ := hI
   rw [qn.l1] at hM
   refine wp_seq <| qk <| sM hS rfl fun hS => sB hS rfl fun hS => qz <| qy hS rfl hM (fun MD hM => ?_) (fun MD hM => ?_)
   ·refine wp_skip ?_
    refine qc <| xJ <| zx (fun a w => ∃ (LJ : Option Addr) (LU : Nat) (LE : (List Int)) (Mn : qm) (Mf : qm), Ss 95 [] [(0, qO LF 0), (1, .int .u32 LH), (2, .int .i64 LI)] H [Mf, Mn, L3, L4, L5, L6] F a w ∧ (xh 5 (ci .u8) 1 LJ LE LU Mn) ∧ (xZ Mf LF ([.int .i64 LB, .slice LJ LE.length LU, .slice LM LC.literals_.lengths_.length LQ, .slice LN LC.literals_.codes_.length LR, .slice LO LC.distances_.lengths_.length LS, .slice LP LC.distances_.codes_.length LT]) 49) ∧ (qn.j2 K (qn.l1 K Mp) LB LH LI LE).wp kr kp) (fun MW Mj => ?_) ?_
    ·refine wp_seq ?_
     refine zI <| sM hS rfl fun hS => sO hS (yu rfl) rfl fun hS => sO hS (xr rfl Tryd.runUnderlying44 rfl Tryd.sizeOf42 rfl) rfl fun hS => sO hS (xr rfl Tryd.runUnderlying42 rfl Tryd.sizeOf3 rfl) rfl fun hS => sO hS (xW 0 rfl LV rfl rfl Tryd.isAgg3) rfl fun hS => sB hS rfl fun hS => sB hS rfl fun hS => qz <| qy hS rfl hM (fun ME hM => ?_) (fun ME hM => ?_)
     ·refine zI ?_
      refine sM hS rfl fun hS => sM hS rfl fun hS => sO hS (yu rfl) rfl fun hS => sO hS (xr rfl Tryd.runUnderlying44 rfl Tryd.sizeOf38 rfl) rfl fun hS => sO hS (xW 0 rfl LV rfl rfl Tryd.isAgg38) rfl fun hS => Xs (g := (ci .u8)) ([(0 : Int)] : List Int) [.int .u8 (0 : Int)] hS Tryd.runUnderlying38 Tryd.sizeOf5 X.el5 rfl rfl rfl (by simp [Value.cells]) rfl rfl rfl rfl rfl fun w MV MY MZ Mz hS => ?_
      obtain ⟨MH, hM⟩ := qE hM
      refine Yk (ys := ([(0 : Int)] : List Int)) 2 hS rfl rfl L9 rfl (Mz.rd (i := 0) rfl) Tryd.runUnderlying38 Tryd.runUnderlying38 X.el5 (fun _ => rfl) rfl uA MH rfl fun Mm w Mq Ms MM hz MA hS => ?_
      have hM := qB hz hM; clear hz
      refine sO hS (yu rfl) rfl fun hS => sO hS (xr rfl Tryd.runUnderlying44 rfl Tryd.sizeOf38 rfl) rfl fun hS => U8 1 ([.int .i64 LB, .slice Mq Mm.length Ms, .slice LM LC.literals_.lengths_.length LQ, .slice LN LC.literals_.codes_.length LR, .slice LO LC.distances_.lengths_.length LS, .slice LP LC.distances_.codes_.length LT]) hS rfl rfl LV rfl rfl rfl rfl Tryd.sizeOf38 fun w MN Mw hS => zd <| qc ?_
      exact Mj _ _ ⟨Mq, Ms, Mm, MM, MN, hS.to [1, 2, 3, 4, 5, 6] (by kernel_rfl) ⟨rfl, rfl, rfl, trivial⟩, MA, Mw, hM⟩
     ·refine wp_skip ?_
      refine qc ?_
      exact Mj _ _ ⟨LZ, L1, LG, L7, L8, hS.to [0, 1, 2, 3, 4, 5] (by kernel_rfl) ⟨rfl, rfl, rfl, trivial⟩, L9, LV, hM⟩
    ·intro a w hI
     obtain ⟨LJ, LU, LE, Mn, Mf, hS, LX, LW, hM⟩ := hI
     rw [qn.j2] at hM
     refine qk <| sM hS rfl fun hS => sO hS (yu rfl) rfl fun hS => sO hS (xr rfl Tryd.runUnderlying44 rfl Tryd.sizeOf42 rfl) rfl fun hS => sO hS (xr rfl Tryd.runUnderlying42 rfl Tryd.sizeOf3 rfl) rfl fun hS => sO hS (xW 0 rfl LW rfl rfl Tryd.isAgg3) rfl fun hS => sB hS rfl fun hS => sB hS rfl fun hS => sM hS rfl fun hS => sO hS (Vx rfl rfl) rfl fun hS => zH (v := Value.int .i64) (x0 := (if LI < (qi ((8 : Int) - (ye .i64 LB (7 : Int)))) then LI else (qi ((8 : Int) - (ye .i64 LB (7 : Int)))))) hS (xv rfl) rfl fun LD a w hz hS => ?_
     have hM := qB hz hM; clear hz
     refine qz <| wp_seq ?_
     obtain ⟨LY, hM⟩ := qE hM
     obtain ⟨Ml, hM⟩ := qE hM
     obtain ⟨MI, hM⟩ := qE hM
     refine zh (vals := [some (qO LF 0), some (qO LF 0), some (qO LF 1), some (.slice LJ LE.length LU), some (qO LF 0), some (qO LF 0), some (qO LF 0), some (qO LF 0), some (.int .i64 LB), some (.int .i64 (xA .i64 LB (8 : Int))), some (xz LJ (Int.toNat (xA .i64 LB (8 : Int)) * 1)), some (.int .u8 (rd LE (xA .i64 LB (8 : Int)))), some (.int .u32 LH), some (.int .i64 LD), some (.int .u32 (xl .u32 (1 : Int) LD)), some (.int .u32 (wr .u32 ((xl .u32 (1 : Int) LD) - (1 : Int)))), some (.int .u32 (ye .u32 LH (wr .u32 ((xl .u32 (1 : Int) LD) - (1 : Int))))), some (.int .u8 (wr .u8 (ye .u32 LH (wr .u32 ((xl .u32 (1 : Int) LD) - (1 : Int)))))), some (qO LF 0), some (qO LF 0), some (qO LF 0), some (qO LF 0), some (.int .i64 LB), some (.int .i64 (ye .i64 LB (7 : Int))), some (.int .u8 (xl .u8 (wr .u8 (ye .u32 LH (wr .u32 ((xl .u32 (1 : Int) LD) - (1 : Int))))) (ye .i64 LB (7 : Int)))), some (.int .u8 (BV .u8 (rd LE (xA .i64 LB (8 : Int))) (xl .u8 (wr .u8 (ye .u32 LH (wr .u32 ((xl .u32 (1 : Int) LD) - (1 : Int))))) (ye .i64 LB (7 : Int))))), some (xz LJ (Int.toNat (xA .i64 LB (8 : Int)) * 1)), none]) hS xH rfl ?_
     intro l w ho hcl hA hst
     refine jQ hA hst ho hcl xQ xI 27 [0, 1, 2, 3, 4, 5, 6, 7, 8, 9, 10, 11, 12, 13, 14, 15, 16, 17, 18, 19, 20, 21, 22, 23, 24, 25, 26] rfl rfl rfl rfl rfl (by exact ⟨nM rfl, nQ rfl (by exact qY (yu rfl) rfl), nQ rfl (by exact qY (xr rfl Tryd.runUnderlying44 rfl Tryd.sizeOf38 rfl) rfl), nQ rfl (by exact qY (xW 0 rfl LW rfl rfl Tryd.isAgg38) rfl), nM rfl, nQ rfl (by exact qY (yu rfl) rfl), nQ rfl (by exact qY (xr rfl Tryd.runUnderlying44 rfl Tryd.sizeOf42 rfl) rfl), nQ rfl (by exact qY (xr rfl Tryd.runUnderlying42 rfl Tryd.sizeOf3 rfl) rfl), nQ rfl (by exact qY (xW 0 rfl LW rfl rfl Tryd.isAgg3) rfl), nQ rfl (by exact qY (quo rfl rfl rfl) rfl), nQ rfl (by exact qY (x6 rfl rfl Tryd.runUnderlying38 Tryd.sizeOf5 (LX.rd (i := 1) rfl) (fun _ => rfl) rfl LY) rfl), nQ rfl (by exact qY (x9 rfl (LX.rd (i := 1) rfl) (fun _ => rfl) LY rfl Tryd.isAgg5) rfl), nM rfl, nM rfl, nQ rfl (by exact qY (shl rfl rfl Ml) rfl), nB rfl, nB rfl, nQ rfl (by exact qY (vH rfl Tryd.runUnderlying53 Tryd.runUnderlying5) rfl), nM rfl, nQ rfl (by exact qY (yu rfl) rfl), nQ rfl (by exact qY (xr rfl Tryd.runUnderlying44 rfl Tryd.sizeOf42 rfl) rfl), nQ rfl (by exact qY (xr rfl Tryd.runUnderlying42 rfl Tryd.sizeOf3 rfl) rfl), nQ rfl (by exact qY (xW 0 rfl LW rfl rfl Tryd.isAgg3) rfl), nB rfl, nQ rfl (by exact qY (shl rfl rfl MI) rfl), nB rfl, nQ rfl (by exact qY (x6 rfl rfl Tryd.runUnderlying38 Tryd.sizeOf5 (LX.rd (i := 1) rfl) (fun _ => rfl) rfl LY) rfl), trivial⟩) fun D l a w ho hcl hav hpre hm hE hk hA hst => ?_
     have hS := (Ss.mk hE hst).env2 (e' := [(77, .int .u8 (BV .u8 (rd LE (xA .i64 LB (8 : Int))) (xl .u8 (wr .u8 (ye .u32 LH (wr .u32 ((xl .u32 (1 : Int) LD) - (1 : Int))))) (ye .i64 LB (7 : Int))))), (78, xz LJ (Int.toNat (xA .i64 LB (8 : Int)) * 1))]) ⟨rfl, rfl, trivial⟩
     refine zi rfl <| Xj (i := (xA .i64 LB (8 : Int))) (sz := 1) 1 0 ((BV .u8 (rd LE (xA .i64 LB (8 : Int))) (xl .u8 (wr .u8 (ye .u32 LH (wr .u32 ((xl .u32 (1 : Int) LD) - (1 : Int))))) (ye .i64 LB (7 : Int))))) hS rfl rfl LX rfl Tryd.sizeOf5 (uA (BV .u8 (rd LE (xA .i64 LB (8 : Int))) (xl .u8 (wr .u8 (ye .u32 LH (wr .u32 ((xl .u32 (1 : Int) LD) - (1 : Int))))) (ye .i64 LB (7 : Int))))) (fun _ => rfl) LY rfl rfl fun Ma w MO hz MJ MB hS => ?_
     have hM := qB hz hM; clear hz
     have Mi : xZ Mf LF ([.int .i64 LB, .slice LJ Ma.length LU, .slice LM LC.literals_.lengths_.length LQ, .slice LN LC.literals_.codes_.length LR, .slice LO LC.distances_.lengths_.length LS, .slice LP LC.distances_.codes_.length LT]) 49 := by rw [MJ]; exact LW
     refine qz ?_
     replace hst := hS.st
     obtain ⟨hcl, hmust, hav2, hA⟩ := Jy (vals' := [some (qO LF 0), some (qO LF 0), some (qO LF 1), some (.slice LJ LE.length LU), some (qO LF 0), some (qO LF 0), some (qO LF 0), some (qO LF 0), some (.int .i64 LB), some (.int .i64 (xA .i64 LB (8 : Int))), some (xz LJ (Int.toNat (xA .i64 LB (8 : Int)) * 1)), some (.int .u8 (rd LE (xA .i64 LB (8 : Int)))), some (.int .u32 LH), some (.int .i64 LD), some (.int .u32 (xl .u32 (1 : Int) LD)), some (.int .u32 (wr .u32 ((xl .u32 (1 : Int) LD) - (1 : Int)))), some (.int .u32 (ye .u32 LH (wr .u32 ((xl .u32 (1 : Int) LD) - (1 : Int))))), some (.int .u8 (wr .u8 (ye .u32 LH (wr .u32 ((xl .u32 (1 : Int) LD) - (1 : Int)))))), some (qO LF 0), some (qO LF 0), some (qO LF 0), some (qO LF 0), some (.int .i64 LB), some (.int .i64 (ye .i64 LB (7 : Int))), some (.int .u8 (xl .u8 (wr .u8 (ye .u32 LH (wr .u32 ((xl .u32 (1 : Int) LD) - (1 : Int))))) (ye .i64 LB (7 : Int)))), some (.int .u8 (BV .u8 (rd LE (xA .i64 LB (8 : Int))) (xl .u8 (wr .u8 (ye .u32 LH (wr .u32 ((xl .u32 (1 : Int) LD) - (1 : Int))))) (ye .i64 LB (7 : Int))))), some (xz LJ (Int.toNat (xA .i64 LB (8 : Int)) * 1)), some undef]) 27 [(0, 27), (1, 27), (2, 27), (3, 27), (4, 27), (5, 27), (6, 27), (7, 27), (8, 27), (9, 27), (10, 27), (11, 27), (12, 27), (13, 27), (14, 27), (15, 27), (16, 27), (17, 27), (18, 27), (19, 27), (20, 27), (21, 27), (22, 27), (23, 27), (24, 27), (25, 27), (26, 27)] hA hcl hav hm hpre rfl rfl rfl rfl rfl
     clear hm hav
     refine yo hA hst ho hcl hmust [] rfl rfl rfl trivial fun a w hS => ?_
     replace hS := hS.env2 (e' := [(0, qO LF 0), (1, .int .u32 LH), (2, .int .i64 LI), (7, .int .i64 LD)]) ⟨rfl, rfl, rfl, rfl, trivial⟩
     refine qc <| qk <| sM hS rfl fun hS => sM hS rfl fun hS => sO hS (shr rfl rfl Ml) rfl fun hS => zH (v := Value.int .u32) (x0 := (xF .u32 LH LD)) hS (xv rfl) rfl fun MQ a w hz hS => ?_
     have hM := qB hz hM; clear hz
     refine qz <| qk <| sM hS rfl fun hS => sO hS (yu rfl) rfl fun hS => sO hS (xr rfl Tryd.runUnderlying44 rfl Tryd.sizeOf42 rfl) rfl fun hS => sO hS (xr rfl Tryd.runUnderlying42 rfl Tryd.sizeOf3 rfl) rfl fun hS => sO hS (xW 0 rfl Mi rfl rfl Tryd.isAgg3) rfl fun hS => sM hS rfl fun hS => sB hS rfl fun hS => sO hS (yu rfl) rfl fun hS => sO hS (xr rfl Tryd.runUnderlying44 rfl Tryd.sizeOf42 rfl) rfl fun hS => sO hS (xr rfl Tryd.runUnderlying42 rfl Tryd.sizeOf3 rfl) rfl fun hS => U8 0 ([.int .i64 (qi (LB + LD)), .slice LJ Ma.length LU, .slice LM LC.literals_.lengths_.length LQ, .slice LN LC.literals_.codes_.length LR, .slice LO LC.distances_.lengths_.length LS, .slice LP LC.distances_.codes_.length LT]) hS rfl rfl Mi rfl rfl rfl rfl Tryd.sizeOf3 fun w MP Mx hS => qz <| zI <| sM hS rfl fun hS => sM hS rfl fun hS => sB hS rfl fun hS => zH (v := Value.int .i64) (x0 := (qi (LI - LD))) hS (xv rfl) rfl fun MK a w hz hS => ?_
     have hM := qB hz hM; clear hz
     refine zd <| zz (qc ?_)
     exact My _ _ ⟨(qi (LB + LD)), LJ, LU, Ma, MO, MP, MQ, MK, hS.to [0, 1, 2, 3, 4, 5] (by kernel_rfl) ⟨rfl, rfl, rfl, trivial⟩, MB, Mx, hM⟩
   ·refine wp_exit ?_
    refine qC (qC (q9 (qc ?_)))
    refine qk <| sA hS rfl fun hS => qz <| wp_ret ?_
    exact zm (rs := [6]) hS rfl rfl (hret (0 : Int) LB LZ L1 LG L7 L8 _ (qU hM) L9 LV (hS.st.pick [0, 1, 2, 3, 4, 5] (by kernel_rfl)))
theorem yn {H : xU} {F : List qm} {w : World} {R : Ending → World → Prop} {kr : (Int × (List Int)) → Prop} {kp : Value → Prop} (hG : Gl H) (K : Nat) (LB : qp) (Mg : qu) (LD : Int) (LF : Nat) (Mc : qm) (L9 : Option Addr) (Mb : Nat) (Md : qm) (LK : Option Addr) (LL : Nat) (LM : qm) (LG : Option Addr) (LJ : Nat) (LN : qm) (LQ : Option Addr) (LV : Nat) (LO : qm) (LR : Option Addr) (LW : Nat) (LP : qm) (Mm : xZ Mc LF ([.int .i64 LB.Writer_.place_.at_, .slice L9 LB.Writer_.bytes_.length Mb, .slice LK LB.literals_.lengths_.length LL, .slice LG LB.literals_.codes_.length LJ, .slice LQ LB.distances_.lengths_.length LV, .slice LR LB.distances_.codes_.length LW]) 49) (Mp : xh 5 (ci .u8) 1 L9 LB.Writer_.bytes_ Mb Md) (L0 : xh 3 (ci .i64) 1 LK LB.literals_.lengths_ LL LM) (L1 : xh 3 (ci .i64) 1 LG LB.literals_.codes_ LJ LN) (Mq : xh 3 (ci .i64) 1 LQ LB.distances_.lengths_ LV LO) (Mr : xh 3 (ci .i64) 1 LR LB.distances_.codes_ LW LP)
    (hS : St w H [Mc, Md, LM, LN, LO, LP] F) (hm : (zU.m K LB Mg LD).wp kr kp)
    (hret : ∀ (LT : Int) (Me : Option Addr) (Mf : Nat) (LI : (List Int)) (Mk : qm) (Ml : qm) (w : World), kr (LT, LI) → (xh 5 (ci .u8) 1 Me LI Mf Mk) → (xZ Ml LF ([.int .i64 LT, .slice Me LI.length Mf, .slice LK LB.literals_.lengths_.length LL, .slice LG LB.literals_.codes_.length LJ, .slice LQ LB.distances_.lengths_.length LV, .slice LR LB.distances_.codes_.length LW]) 49) → St w H [Ml, Mk, LM, LN, LO, LP] F → R (.returned (.tuple ⟨[]⟩)) w) :
    Calls Tryd.prog 41 ⟨[qO LF 0, .agg ⟨[.slice LK LB.literals_.lengths_.length LL, .slice LG LB.literals_.codes_.length LJ]⟩, .int .i64 LD]⟩ w R := by
 refine enter Tryd.func41 rfl Tryd.ntmps41 rfl hS fun a w hS => ?_
 have hM := hm; clear hm
 rw [zU.m] at hM
 refine qk <| bx ([.slice LK LB.literals_.lengths_.length LL, .slice LG LB.literals_.codes_.length LJ]) hS rfl rfl rfl fun w L3 Mh L4 hS => qz <| qk <| sO hS (xr rfl Tryd.runUnderlying47 rfl Tryd.sizeOf45 rfl) rfl fun hS => sO hS (xW 0 rfl L4 rfl rfl Tryd.isAgg45) rfl fun hS => sM hS rfl fun hS => ?_
 obtain ⟨L7, hM⟩ := qE hM
 refine sO hS (x6 rfl rfl Tryd.runUnderlying45 Tryd.sizeOf3 (L0.rd (i := 3) rfl) (fun _ => rfl) rfl L7) rfl fun hS => sO hS (x9 rfl (L0.rd (i := 3) rfl) (fun _ => rfl) L7 rfl Tryd.isAgg3) rfl fun hS => sB hS rfl fun hS => zH (v := Value.int .i64) (x0 := (qi ((rd LB.literals_.lengths_ LD) - (1 : Int)))) hS (xv rfl) rfl fun Mz a w hz hS => ?_
 have hM := qB hz hM; clear hz
 refine qz <| xJ <| zv (fun Mu a w => ∃ (LH : Int) (LS : Option Addr) (LX : Nat) (LC : (List Int)) (LY : qm) (LZ : qm) (LE : Int), Ss 30 [] [(0, qO LF 0), (2, .int .i64 LD), (4, qO L3 0), (6, .int .i64 LE)] H [LZ, LY, LM, LN, LO, LP, Mh] F a w ∧ (xh 5 (ci .u8) 1 LS LC LX LY) ∧ (xZ LZ LF ([.int .i64 LH, .slice LS LC.length LX, .slice LK LB.literals_.lengths_.length LL, .slice LG LB.literals_.codes_.length LJ, .slice LQ LB.distances_.lengths_.length LV, .slice LR LB.distances_.codes_.length LW]) 49) ∧ (zU.l1 K LB LD Mu LH LC LE).wp kr kp) K ?_ ?_ ?_
 ·exact ⟨LB.Writer_.place_.at_, L9, Mb, LB.Writer_.bytes_, Md, Mc, Mz, hS.to [1, 2, 3, 4, 5, 6, 0] (by kernel_rfl) ⟨rfl, rfl, rfl, rfl, trivial⟩, Mp, Mm, hM⟩
 ·intro a w hI; obtain ⟨_, _, _, _, _, _, _, _, _, _, hM⟩ := hI; exact zr hM
 ·intro Mu a w hI MC Mn
  obtain ⟨LH, LS, LX, LC, LY, LZ, LE, hS, L6, L5, hM⟩ := hI
  rw [zU.l1] at hM
  refine wp_seq <| qk <| sM hS rfl fun hS => sB hS rfl fun hS => qz <| qy hS rfl hM (fun Ms hM => ?_) (fun Ms hM => ?_)
  ·refine wp_skip ?_
   refine qc <| wp_seq <| xJ ?_
   obtain ⟨L8, hM⟩ := qE hM
   obtain ⟨Mt, hM⟩ := qE hM
   refine zh (vals := [some (qO LF 0), some (qO LF 0), some (qO LF 0), some (qO L3 1), some (.slice LG LB.literals_.codes_.length LJ), some (.int .i64 LD), some (xz LG (Int.toNat LD * 1)), some (.int .i64 (rd LB.literals_.codes_ LD)), some (.int .i64 LE), some (.int .i64 (xF .i64 (rd LB.literals_.codes_ LD) LE)), some (.int .i64 (ye .i64 (xF .i64 (rd LB.literals_.codes_ LD) LE) (1 : Int))), some (.int .u32 (wr .u32 (ye .i64 (xF .i64 (rd LB.literals_.codes_ LD) LE) (1 : Int)))), none]) hS xH rfl ?_
   intro l w ho hcl hA hst
   refine jQ hA hst ho hcl xQ xI 12 [0, 1, 2, 3, 4, 5, 6, 7, 8, 9, 10, 11] rfl rfl rfl rfl rfl (by exact ⟨nM rfl, nQ rfl (by exact qY (yu rfl) rfl), nQ rfl (by exact qY (xr rfl Tryd.runUnderlying49 rfl Tryd.sizeOf44 rfl) rfl), nQ rfl (by exact qY (xr rfl Tryd.runUnderlying47 rfl Tryd.sizeOf45 rfl) rfl), nQ rfl (by exact qY (xW 6 rfl L4 rfl rfl Tryd.isAgg45) rfl), nM rfl, nQ rfl (by exact qY (x6 rfl rfl Tryd.runUnderlying45 Tryd.sizeOf3 (L1.rd (i := 3) rfl) (fun _ => rfl) rfl L8) rfl), nQ rfl (by exact qY (x9 rfl (L1.rd (i := 3) rfl) (fun _ => rfl) L8 rfl Tryd.isAgg3) rfl), nM rfl, nQ rfl (by exact qY (shr rfl rfl Mt) rfl), nB rfl, nQ rfl (by exact qY (vH rfl Tryd.runUnderlying3 Tryd.runUnderlying53) rfl), trivial⟩) fun D l a w ho hcl hav hpre hm hE hk hA hst => ?_
   have hS := (Ss.mk hE hst).env2 (e' := [(19, qO LF 0), (28, .int .u32 (wr .u32 (ye .i64 (xF .i64 (rd LB.literals_.codes_ LD) LE) (1 : Int))))]) ⟨rfl, rfl, trivial⟩
   refine zi rfl <| qK hS rfl Tryd.call23 (zk hG K (qp.mk (qR.mk (qW.mk LH) LC) LB.literals_ LB.distances_) (wr .u32 (ye .i64 (xF .i64 (rd LB.literals_.codes_ LD) LE) (1 : Int))) (1 : Int) LF LZ LS LX LY LK LL LM LG LJ LN LQ LV LO LR LW LP L5 L6 L0 L1 Mq Mr (hS.st.part 6 [0, 1, 2, 3, 4, 5, 6] (by kernel_rfl)) (qx hM) (fun MB Ma Mv Mw LU Mi Mj w hM Mx My hst => qJ hS.ev hst.appF rfl fun hS => ?_))
   replace hS : Ss _ _ _ H [Mj, Mi, LM, LN, LO, LP, Mh] F _ _ := hS
   refine qz ?_
   replace hst := hS.st
   obtain ⟨hcl, hmust, hav2, hA⟩ := dn (vals' := [some (qO LF 0), some (qO LF 0), some (qO LF 0), some (qO L3 1), some (.slice LG LB.literals_.codes_.length LJ), some (.int .i64 LD), some (xz LG (Int.toNat LD * 1)), some (.int .i64 (rd LB.literals_.codes_ LD)), some (.int .i64 LE), some (.int .i64 (xF .i64 (rd LB.literals_.codes_ LD) LE)), some (.int .i64 (ye .i64 (xF .i64 (rd LB.literals_.codes_ LD) LE) (1 : Int))), some (.int .u32 (wr .u32 (ye .i64 (xF .i64 (rd LB.literals_.codes_ LD) LE) (1 : Int)))), some (.int .i64 MB)]) 12 [(2, 12), (11, 12), (1, 2), (10, 11), (0, 1), (9, 10), (7, 9), (8, 9), (6, 7), (4, 6), (5, 6), (3, 4)] hA hcl hav hm hpre hk rfl rfl rfl rfl rfl rfl rfl
   clear hm hav
   refine yo hA hst ho hcl hmust [] rfl rfl rfl trivial fun a w hS => ?_
   replace hS := hS.env2 (e' := [(0, qO LF 0), (2, .int .i64 LD), (4, qO L3 0), (6, .int .i64 LE)]) ⟨rfl, rfl, rfl, rfl, trivial⟩
   refine zz (qc ?_)
   refine zI <| sM hS rfl fun hS => sB hS rfl fun hS => zH (v := Value.int .i64) (x0 := (qi (LE - (1 : Int)))) hS (xv rfl) rfl fun MA a w hz hS => ?_
   have hM := qB hz hM; clear hz
   refine zd <| qc ?_
   exact Mn _ _ ⟨Ma, Mv, Mw, LU, Mi, Mj, MA, hS.to [0, 1, 2, 3, 4, 5, 6] (by kernel_rfl) ⟨rfl, rfl, rfl, rfl, trivial⟩, Mx, My, hM⟩
  ·refine wp_exit ?_
   refine qC (qC (q9 ?_))
   exact vg (rs := []) hS rfl rfl (hret LH LS LX LC LY LZ _ (qU hM) L6 L5 (hS.st.pick [0, 1, 2, 3, 4, 5] (by kernel_rfl)))
theorem uG {H : xU} {F : List qm} {w : World} {R : Ending → World → Prop} {kr : (Int × Int × Int) → Prop} {kp : Value → Prop} (hG : Gl H) (K : Nat) (LE : Int) (LD : Int)
    (hS : St w H [] F) (hm : (xd.m K LE LD).wp kr kp)
    (hret : ∀ (LG : Int) (LI : Int) (LJ : Int) (w : World), kr (LG, LI, LJ) → St w H [] F → R (.returned (.agg ⟨[.int .i64 LG, .int .i64 LI, .int .u32 LJ]⟩)) w) :
    Calls Tryd.prog 52 ⟨[.int .i64 LE, .int .i64 LD]⟩ w R := by
 refine enter Tryd.func52 rfl Tryd.ntmps52 rfl hS fun a w hS => ?_
 have hM := hm; clear hm
 rw [xd.m] at hM
 refine qk <| QJ ([.int .i64 (0 : Int), .int .i64 (0 : Int), .int .u32 (0 : Int)]) hS Tryd.zeroValue68 rfl rfl fun w LK LM LN hS => qz <| qk <| sM hS rfl fun hS => sA hS rfl fun hS => sA hS rfl fun hS => qz <| zx (fun a w => ∃ (LB : Int) (LC : Int), Ss 29 [] [(0, .int .i64 LE), (1, .int .i64 LD), (4, qO LK 0), (5, .int .i64 LB), (6, .int .i64 LC)] H [LM] F a w ∧ (xd.j2 K LE LD LB LC).wp kr kp) (fun LY LQ => ?_) ?_
 ·refine xJ ?_
  refine zv (fun LV a w => ∃ (LH : Int) (LF : Int), Ss 29 [] [(0, .int .i64 LE), (1, .int .i64 LD), (4, qO LK 0), (5, .int .i64 LH), (6, .int .i64 LF)] H [LM] F a w ∧ (xd.l1 K LE LD LV LH LF).wp kr kp) K ?_ ?_ ?_
  ·exact ⟨(0 : Int), LE, hS.to [0] (by kernel_rfl) ⟨rfl, rfl, rfl, rfl, rfl, trivial⟩, hM⟩
  ·intro a w hI; obtain ⟨_, _, _, hM⟩ := hI; exact zr hM
  ·intro LV a w hI LX LP
   obtain ⟨LH, LF, hS, hM⟩ := hI
   rw [xd.l1] at hM
   refine wp_seq <| qk <| sM hS rfl fun hS => sM hS rfl fun hS => ?_
   obtain ⟨LS, hM⟩ := qE hM
   refine sO hS (shl rfl rfl LS) rfl fun hS => sB hS rfl fun hS => qz <| qy hS rfl hM (fun LR hM => ?_) (fun LR hM => ?_)
   ·refine wp_skip ?_
    refine qc <| xJ <| qk <| sM hS rfl fun hS => sO hS (shr rfl rfl rfl) rfl fun hS => zH (v := Value.int .i64) (x0 := (xF .i64 LF (1 : Int))) hS (xv rfl) rfl fun LL a w hz hS => ?_
    have hM := qB hz hM; clear hz
    refine qz <| zI <| sM hS rfl fun hS => sB hS rfl fun hS => zH (v := Value.int .i64) (x0 := (qi (LH + (1 : Int)))) hS (xv rfl) rfl fun LW a w hz hS => ?_
    have hM := qB hz hM; clear hz
    refine zd <| zz (qc ?_)
    exact LP _ _ ⟨LW, LL, hS.to [0] (by kernel_rfl) ⟨rfl, rfl, rfl, rfl, rfl, trivial⟩, hM⟩
   ·refine wp_exit ?_
    refine qC (qC (q9 (qc ?_)))
    exact LQ _ _ ⟨LH, LF, hS.to [0] (by kernel_rfl) ⟨rfl, rfl, rfl, rfl, rfl, trivial⟩, hM⟩
 ·intro a w hI
  obtain ⟨LB, LC, hS, hM⟩ := hI
  rw [xd.j2] at hM
  refine wp_seq ?_
  obtain ⟨LT, hM⟩ := qE hM
  obtain ⟨LU, hM⟩ := qE hM
  refine zh (vals := [some (.int .i64 LB), some (.int .i64 LD), some (.int .i64 (xl .i64 LB LD)), some (.int .i64 LC), some (.int .i64 (qi ((xl .i64 LB LD) + LC))), some (.int .i64 LB), some (.int .i64 LE), some (.int .i64 LC), some (.int .i64 LB), some (.int .i64 (xl .i64 LC LB)), some (.int .i64 (qi (LE - (xl .i64 LC LB)))), some (.int .u32 (wr .u32 (qi (LE - (xl .i64 LC LB))))), some (.agg ⟨[.int .i64 (qi ((xl .i64 LB LD) + LC)), .int .i64 LB, .int .u32 (wr .u32 (qi (LE - (xl .i64 LC LB))))]⟩), none]) hS xH rfl ?_
  intro l w ho hcl hA hst
  refine jQ hA hst ho hcl xQ xI 13 [0, 1, 2, 3, 4, 5, 6, 7, 8, 9, 10, 11, 12] rfl rfl rfl rfl rfl (by exact ⟨nM rfl, nM rfl, nQ rfl (by exact qY (shl rfl rfl LT) rfl), nM rfl, nB rfl, nM rfl, nM rfl, nM rfl, nM rfl, nQ rfl (by exact qY (shl rfl rfl LU) rfl), nB rfl, nQ rfl (by exact qY (vH rfl Tryd.runUnderlying3 Tryd.runUnderlying53) rfl), nQ rfl (by exact qY (Zq ([.int .i64 (qi ((xl .i64 LB LD) + LC)), .int .i64 LB, .int .u32 (wr .u32 (qi (LE - (xl .i64 LC LB))))]) [(0, 1), (1, 1), (2, 1)] Tryd.zeroValue68 Tryd.runUnderlying68 (by intro w; simp [Tryd.sizeOf3, Tryd.sizeOf53]) rfl rfl) rfl), trivial⟩) fun D l a w ho hcl hav hpre hm hE hk hA hst => ?_
  have hS := (Ss.mk hE hst).env2 (e' := [(4, qO LK 0), (28, .agg ⟨[.int .i64 (qi ((xl .i64 LB LD) + LC)), .int .i64 LB, .int .u32 (wr .u32 (qi (LE - (xl .i64 LC LB))))]⟩)]) ⟨rfl, rfl, trivial⟩
  refine zi rfl <| u5 0 ([.int .i64 (qi ((xl .i64 LB LD) + LC)), .int .i64 LB, .int .u32 (wr .u32 (qi (LE - (xl .i64 LC LB))))]) ([.int .i64 (qi ((xl .i64 LB LD) + LC)), .int .i64 LB, .int .u32 (wr .u32 (qi (LE - (xl .i64 LC LB))))]) hS rfl rfl LN rfl rfl Tryd.sizeOf68 (by simp [Value.oneCell']) (Nat.le_of_ble_eq_true rfl) rfl fun w LZ LO hS => qz ?_
  replace hst := hS.st
  obtain ⟨hcl, hmust, hav2, hA⟩ := Jy (vals' := [some (.int .i64 LB), some (.int .i64 LD), some (.int .i64 (xl .i64 LB LD)), some (.int .i64 LC), some (.int .i64 (qi ((xl .i64 LB LD) + LC))), some (.int .i64 LB), some (.int .i64 LE), some (.int .i64 LC), some (.int .i64 LB), some (.int .i64 (xl .i64 LC LB)), some (.int .i64 (qi (LE - (xl .i64 LC LB)))), some (.int .u32 (wr .u32 (qi (LE - (xl .i64 LC LB))))), some (.agg ⟨[.int .i64 (qi ((xl .i64 LB LD) + LC)), .int .i64 LB, .int .u32 (wr .u32 (qi (LE - (xl .i64 LC LB))))]⟩), some undef]) 13 [(0, 13), (1, 13), (2, 13), (3, 13), (4, 13), (5, 13), (6, 13), (7, 13), (8, 13), (9, 13), (10, 13), (11, 13), (12, 13)] hA hcl hav hm hpre rfl rfl rfl rfl rfl
  clear hm hav
  refine yo hA hst ho hcl hmust [] rfl rfl rfl trivial fun a w hS => ?_
  replace hS := hS.env2 (e' := [(4, qO LK 0)]) ⟨rfl, trivial⟩
  refine qc <| wp_ret ?_
  exact yB (vs := [.agg ⟨[.int .i64 (qi ((xl .i64 LB LD) + LC)), .int .i64 LB, .int .u32 (wr .u32 (qi (LE - (xl .i64 LC LB))))]⟩]) hS rfl (by exact ⟨Jp 0 ([.int .i64 (qi ((xl .i64 LB LD) + LC)), .int .i64 LB, .int .u32 (wr .u32 (qi (LE - (xl .i64 LC LB))))]) rfl LO rfl rfl rfl Tryd.isAgg68 Tryd.sizeOf68, trivial⟩) (hret (qi ((xl .i64 LB LD) + LC)) LB (wr .u32 (qi (LE - (xl .i64 LC LB)))) _ (qU hM) (hS.st.pick [] (by kernel_rfl)))
theorem uF {H : xU} {F : List qm} {w : World} {R : Ending → World → Prop} {kr : (Int × Int × Int) → Prop} {kp : Value → Prop} (hG : Gl H) (K : Nat) (LH : Int)
    (hS : St w H [] F) (hm : (yG.m K LH).wp kr kp)
    (hret : ∀ (LE : Int) (LF : Int) (LG : Int) (w : World), kr (LE, LF, LG) → St w H [] F → R (.returned (.agg ⟨[.int .i64 LE, .int .i64 LF, .int .u32 LG]⟩)) w) :
    Calls Tryd.prog 35 ⟨[.int .i64 LH]⟩ w R := by
 refine enter Tryd.func35 rfl Tryd.ntmps35 rfl hS fun a w hS => ?_
 have hM := hm; clear hm
 rw [yG.m] at hM
 refine qk <| QJ ([.int .i64 (0 : Int), .int .i64 (0 : Int), .int .u32 (0 : Int)]) hS Tryd.zeroValue68 rfl rfl fun w LQ LP LI hS => qz <| wp_seq <| qk <| sM hS rfl fun hS => sB hS rfl fun hS => qz <| qy hS rfl hM (fun LO hM => ?_) (fun LO hM => ?_)
 ·refine wp_seq ?_
  refine zI <| sO hS (Zq ([.int .i64 (285 : Int), .int .i64 (0 : Int), .int .u32 (0 : Int)]) [(0, 1), (1, 1), (2, 1)] Tryd.zeroValue68 Tryd.runUnderlying68 (by intro w; simp [Tryd.sizeOf3, Tryd.sizeOf53]) rfl rfl) rfl fun hS => u5 0 ([.int .i64 (285 : Int), .int .i64 (0 : Int), .int .u32 (0 : Int)]) ([.int .i64 (285 : Int), .int .i64 (0 : Int), .int .u32 (0 : Int)]) hS rfl rfl LI rfl rfl Tryd.sizeOf68 (by simp [Value.oneCell']) (Nat.le_of_ble_eq_true rfl) rfl fun w LS LK hS => qz <| wp_ret <| qA ?_
  exact yB (vs := [.agg ⟨[.int .i64 (285 : Int), .int .i64 (0 : Int), .int .u32 (0 : Int)]⟩]) hS rfl (by exact ⟨Jp 0 ([.int .i64 (285 : Int), .int .i64 (0 : Int), .int .u32 (0 : Int)]) rfl LK rfl rfl rfl Tryd.isAgg68 Tryd.sizeOf68, trivial⟩) (hret (285 : Int) (0 : Int) (0 : Int) _ (qU hM) (hS.st.pick [] (by kernel_rfl)))
 ·refine wp_skip ?_
  refine qc <| qk <| sM hS rfl fun hS => sB hS rfl fun hS => qK hS rfl Tryd.call52 (uG hG K (qi (LH - (3 : Int))) (2 : Int) (hS.st.part 0 [0] (by kernel_rfl)) (qx hM) (fun LB LC LD w hM  hst => qJ hS.ev hst.appF rfl fun hS => ?_))
  replace hS : Ss _ _ _ H [LP] F _ _ := hS
  refine QJ ([.int .i64 (0 : Int), .int .i64 (0 : Int), .int .u32 (0 : Int)]) hS Tryd.zeroValue68 rfl rfl fun w LR LT LL hS => u5 0 ([.int .i64 LB, .int .i64 LC, .int .u32 LD]) ([.int .i64 LB, .int .i64 LC, .int .u32 LD]) hS rfl rfl LL rfl rfl Tryd.sizeOf68 (by simp [Value.oneCell']) (Nat.le_of_ble_eq_true rfl) rfl fun w LU LJ hS => qz <| qk <| sO hS (xr rfl Tryd.runUnderlying68 rfl Tryd.sizeOf3 rfl) rfl fun hS => sO hS (xW 0 rfl LJ rfl rfl Tryd.isAgg3) rfl fun hS => sB hS rfl fun hS => sO hS (xr rfl Tryd.runUnderlying68 rfl Tryd.sizeOf3 rfl) rfl fun hS => U8 0 ([.int .i64 (qi (LB + (257 : Int))), .int .i64 LC, .int .u32 LD]) hS rfl rfl LJ rfl rfl rfl rfl Tryd.sizeOf3 fun w LV LM hS => qz <| qk <| sO hS (vT 0 rfl LM rfl ([.int .i64 (qi (LB + (257 : Int))), .int .i64 LC, .int .u32 LD]) rfl rfl Tryd.isAgg68 Tryd.sizeOf68) rfl fun hS => u5 1 ([.int .i64 (qi (LB + (257 : Int))), .int .i64 LC, .int .u32 LD]) ([.int .i64 (qi (LB + (257 : Int))), .int .i64 LC, .int .u32 LD]) hS rfl rfl LI rfl rfl Tryd.sizeOf68 (by simp [Value.oneCell']) (Nat.le_of_ble_eq_true rfl) rfl fun w LW LN hS => qz <| wp_ret ?_
  exact yB (vs := [.agg ⟨[.int .i64 (qi (LB + (257 : Int))), .int .i64 LC, .int .u32 LD]⟩]) hS rfl (by exact ⟨Jp 1 ([.int .i64 (qi (LB + (257 : Int))), .int .i64 LC, .int .u32 LD]) rfl LN rfl rfl rfl Tryd.isAgg68 Tryd.sizeOf68, trivial⟩) (hret (qi (LB + (257 : Int))) LC LD _ (qU hM) (hS.st.pick [] (by kernel_rfl)))
theorem vL {H : xU} {F : List qm} {w : World} {R : Ending → World → Prop} {kr : (Int × (List Int)) → Prop} {kp : Value → Prop} (hG : Gl H) (K : Nat) (LB : qp) (L9 : qu) (LC : xV) (LD : Nat) (L5 : qm) (L0 : Option Addr) (L4 : Nat) (L6 : qm) (LF : Option Addr) (LH : Nat) (LJ : qm) (LG : Option Addr) (LI : Nat) (LK : qm) (LN : Option Addr) (LS : Nat) (LL : qm) (LO : Option Addr) (LT : Nat) (LM : qm) (Mi : xZ L5 LD ([.int .i64 LB.Writer_.place_.at_, .slice L0 LB.Writer_.bytes_.length L4, .slice LF LB.literals_.lengths_.length LH, .slice LG LB.literals_.codes_.length LI, .slice LN LB.distances_.lengths_.length LS, .slice LO LB.distances_.codes_.length LT]) 49) (Mk : xh 5 (ci .u8) 1 L0 LB.Writer_.bytes_ L4 L6) (LW : xh 3 (ci .i64) 1 LF LB.literals_.lengths_ LH LJ) (LX : xh 3 (ci .i64) 1 LG LB.literals_.codes_ LI LK) (LY : xh 3 (ci .i64) 1 LN LB.distances_.lengths_ LS LL) (LZ : xh 3 (ci .i64) 1 LO LB.distances_.codes_ LT LM)
    (hS : St w H [L5, L6, LJ, LK, LL, LM] F) (hm : (yi.m K LB L9 LC).wp kr kp)
    (hret : ∀ (LP : Int) (L7 : Option Addr) (L8 : Nat) (LE : (List Int)) (Mg : qm) (Mh : qm) (w : World), kr (LP, LE) → (xh 5 (ci .u8) 1 L7 LE L8 Mg) → (xZ Mh LD ([.int .i64 LP, .slice L7 LE.length L8, .slice LF LB.literals_.lengths_.length LH, .slice LG LB.literals_.codes_.length LI, .slice LN LB.distances_.lengths_.length LS, .slice LO LB.distances_.codes_.length LT]) 49) → St w H [Mh, Mg, LJ, LK, LL, LM] F → R (.returned (.tuple ⟨[]⟩)) w) :
    Calls Tryd.prog 50 ⟨[qO LD 0, .agg ⟨[.slice LF LB.literals_.lengths_.length LH, .slice LG LB.literals_.codes_.length LI]⟩, .agg ⟨[.int .i64 LC.symbol_, .int .i64 LC.bits_, .int .u32 LC.more_]⟩]⟩ w R := by
 refine enter Tryd.func50 rfl Tryd.ntmps50 rfl hS fun a w hS => ?_
 have hM := hm; clear hm
 rw [yi.m] at hM
 refine qk <| bx ([.slice LF LB.literals_.lengths_.length LH, .slice LG LB.literals_.codes_.length LI]) hS rfl rfl rfl fun w Mv Ma Mj hS => bx ([.int .i64 LC.symbol_, .int .i64 LC.bits_, .int .u32 LC.more_]) hS rfl rfl rfl fun w LV Mb LU hS => qz <| qk <| sM hS rfl fun hS => sO hS (vT 1 rfl Mj rfl ([.slice LF LB.literals_.lengths_.length LH, .slice LG LB.literals_.codes_.length LI]) rfl rfl Tryd.isAgg47 Tryd.sizeOf47) rfl fun hS => sO hS (xr rfl Tryd.runUnderlying68 rfl Tryd.sizeOf3 rfl) rfl fun hS => sO hS (xW 0 rfl LU rfl rfl Tryd.isAgg3) rfl fun hS => qK hS rfl Tryd.call41 (yn hG K LB LB.literals_ LC.symbol_ LD L5 L0 L4 L6 LF LH LJ LG LI LK LN LS LL LO LT LM Mi Mk LW LX LY LZ (hS.st.part 6 [2, 3, 4, 5, 6, 7, 0, 1] (by kernel_rfl)) (qx hM) (fun L1 Ml Mn LQ Mc Md w hM Mq Mr hst => qJ hS.ev hst.appF rfl fun hS => ?_))
 replace hS : Ss _ _ _ H [Md, Mc, LJ, LK, LL, LM, Mb, Ma] F _ _ := hS
 refine qz <| zh (vals := [some (qO LD 0), some (qO LD 0), some (qO LD 0), some (qO LV 2), some (.int .u32 LC.more_), some (qO LV 1), some (.int .i64 LC.bits_), none]) hS xH rfl ?_
 intro l w ho hcl hA hst
 refine jQ hA hst ho hcl xQ xI 7 [0, 1, 2, 3, 4, 5, 6] rfl rfl rfl rfl rfl (by exact ⟨nM rfl, nQ rfl (by exact qY (yu rfl) rfl), nQ rfl (by exact qY (xr rfl Tryd.runUnderlying49 rfl Tryd.sizeOf44 rfl) rfl), nQ rfl (by exact qY (xr rfl Tryd.runUnderlying68 rfl Tryd.sizeOf53 rfl) rfl), nQ rfl (by exact qY (xW 6 rfl LU rfl rfl Tryd.isAgg53) rfl), nQ rfl (by exact qY (xr rfl Tryd.runUnderlying68 rfl Tryd.sizeOf3 rfl) rfl), nQ rfl (by exact qY (xW 6 rfl LU rfl rfl Tryd.isAgg3) rfl), trivial⟩) fun D l a w ho hcl hav hpre hm hE hk hA hst => ?_
 have hS := (Ss.mk hE hst).env2 (e' := [(13, qO LD 0), (15, .int .u32 LC.more_), (17, .int .i64 LC.bits_)]) ⟨rfl, rfl, rfl, trivial⟩
 refine zi rfl <| qK hS rfl Tryd.call23 (zk hG K (qp.mk (qR.mk (qW.mk L1) LQ) LB.literals_ LB.distances_) LC.more_ LC.bits_ LD Md Ml Mn Mc LF LH LJ LG LI LK LN LS LL LO LT LM Mr Mq LW LX LY LZ (hS.st.part 6 [0, 1, 2, 3, 4, 5, 6, 7] (by kernel_rfl)) (qx hM) (fun Mu L3 Mm Mp LR Me Mf w hM Ms Mt hst => qJ hS.ev hst.appF rfl fun hS => ?_))
 replace hS : Ss _ _ _ H [Mf, Me, LJ, LK, LL, LM, Mb, Ma] F _ _ := hS
 refine qz ?_
 replace hst := hS.st
 obtain ⟨hcl, hmust, hav2, hA⟩ := dn (vals' := [some (qO LD 0), some (qO LD 0), some (qO LD 0), some (qO LV 2), some (.int .u32 LC.more_), some (qO LV 1), some (.int .i64 LC.bits_), some (.int .i64 Mu)]) 7 [(2, 7), (4, 7), (6, 7), (1, 2), (3, 4), (5, 6), (0, 1)] hA hcl hav hm hpre hk rfl rfl rfl rfl rfl rfl rfl
 clear hm hav
 refine yo hA hst ho hcl hmust [] rfl rfl rfl trivial fun a w hS => ?_
 replace hS := hS.env2 (e' := []) trivial
 exact vg (rs := []) hS rfl rfl (hret L3 Mm Mp LR Me Mf _ (qU hM) Ms Mt (hS.st.pick [0, 1, 2, 3, 4, 5] (by kernel_rfl)))
theorem vJ {H : xU} {F : List qm} {w : World} {R : Ending → World → Prop} {kr : (Int × Int × Int) → Prop} {kp : Value → Prop} (hG : Gl H) (K : Nat) (LH : Int)
    (hS : St w H [] F) (hm : (yv.m K LH).wp kr kp)
    (hret : ∀ (LE : Int) (LF : Int) (LG : Int) (w : World), kr (LE, LF, LG) → St w H [] F → R (.returned (.agg ⟨[.int .i64 LE, .int .i64 LF, .int .u32 LG]⟩)) w) :
    Calls Tryd.prog 36 ⟨[.int .i64 LH]⟩ w R := by
 refine enter Tryd.func36 rfl Tryd.ntmps36 rfl hS fun a w hS => ?_
 have hM := hm; clear hm
 rw [yv.m] at hM
 refine qk <| QJ ([.int .i64 (0 : Int), .int .i64 (0 : Int), .int .u32 (0 : Int)]) hS Tryd.zeroValue68 rfl rfl fun w LL LK LI hS => qz <| qk <| sM hS rfl fun hS => sB hS rfl fun hS => qK hS rfl Tryd.call52 (uG hG K (qi (LH - (1 : Int))) (1 : Int) (hS.st.part 0 [0] (by kernel_rfl)) (qx hM) (fun LB LC LD w hM  hst => qJ hS.ev hst.appF rfl fun hS => ?_))
 replace hS : Ss _ _ _ H [LK] F _ _ := hS
 refine u5 0 ([.int .i64 LB, .int .i64 LC, .int .u32 LD]) ([.int .i64 LB, .int .i64 LC, .int .u32 LD]) hS rfl rfl LI rfl rfl Tryd.sizeOf68 (by simp [Value.oneCell']) (Nat.le_of_ble_eq_true rfl) rfl fun w LM LJ hS => qz <| wp_ret ?_
 exact yB (vs := [.agg ⟨[.int .i64 LB, .int .i64 LC, .int .u32 LD]⟩]) hS rfl (by exact ⟨Jp 0 ([.int .i64 LB, .int .i64 LC, .int .u32 LD]) rfl LJ rfl rfl rfl Tryd.isAgg68 Tryd.sizeOf68, trivial⟩) (hret LB LC LD _ (qU hM) (hS.st.pick [] (by kernel_rfl)))
theorem vj {H : xU} {F : List qm} {w : World} {R : Ending → World → Prop} {kr : (Int × (List Int)) → Prop} {kp : Value → Prop} (hG : Gl H) (K : Nat) (LB : qp) (Mr : qu) (LE : Int) (LG : Nat) (Mj : qm) (Mh : Option Addr) (Mi : Nat) (Mk : qm) (LW : Option Addr) (LY : Nat) (LS : qm) (LX : Option Addr) (LZ : Nat) (LT : qm) (LO : Option Addr) (LP : Nat) (LU : qm) (LI : Option Addr) (LJ : Nat) (LV : qm) (Mv : xZ Mj LG ([.int .i64 LB.Writer_.place_.at_, .slice Mh LB.Writer_.bytes_.length Mi, .slice LW LB.literals_.lengths_.length LY, .slice LX LB.literals_.codes_.length LZ, .slice LO LB.distances_.lengths_.length LP, .slice LI LB.distances_.codes_.length LJ]) 49) (Mw : xh 5 (ci .u8) 1 Mh LB.Writer_.bytes_ Mi Mk) (Mx : xh 3 (ci .i64) 1 LW LB.literals_.lengths_ LY LS) (My : xh 3 (ci .i64) 1 LX LB.literals_.codes_ LZ LT) (L3 : xh 3 (ci .i64) 1 LO LB.distances_.lengths_ LP LU) (L4 : xh 3 (ci .i64) 1 LI LB.distances_.codes_ LJ LV)
    (hS : St w H [Mj, Mk, LS, LT, LU, LV] F) (hm : (xb.m K LB Mr LE).wp kr kp)
    (hret : ∀ (LQ : Int) (L8 : Option Addr) (L9 : Nat) (LH : (List Int)) (Mc : qm) (Md : qm) (w : World), kr (LQ, LH) → (xh 5 (ci .u8) 1 L8 LH L9 Mc) → (xZ Md LG ([.int .i64 LQ, .slice L8 LH.length L9, .slice LW LB.literals_.lengths_.length LY, .slice LX LB.literals_.codes_.length LZ, .slice LO LB.distances_.lengths_.length LP, .slice LI LB.distances_.codes_.length LJ]) 49) → St w H [Md, Mc, LS, LT, LU, LV] F → R (.returned (.tuple ⟨[]⟩)) w) :
    Calls Tryd.prog 41 ⟨[qO LG 0, .agg ⟨[.slice LO LB.distances_.lengths_.length LP, .slice LI LB.distances_.codes_.length LJ]⟩, .int .i64 LE]⟩ w R := by
 refine enter Tryd.func41 rfl Tryd.ntmps41 rfl hS fun a w hS => ?_
 have hM := hm; clear hm
 rw [xb.m] at hM
 refine qk <| bx ([.slice LO LB.distances_.lengths_.length LP, .slice LI LB.distances_.codes_.length LJ]) hS rfl rfl rfl fun w L7 Ms Me hS => qz <| qk <| sO hS (xr rfl Tryd.runUnderlying47 rfl Tryd.sizeOf45 rfl) rfl fun hS => sO hS (xW 0 rfl Me rfl rfl Tryd.isAgg45) rfl fun hS => sM hS rfl fun hS => ?_
 obtain ⟨Mf, hM⟩ := qE hM
 refine sO hS (x6 rfl rfl Tryd.runUnderlying45 Tryd.sizeOf3 (L3.rd (i := 5) rfl) (fun _ => rfl) rfl Mf) rfl fun hS => sO hS (x9 rfl (L3.rd (i := 5) rfl) (fun _ => rfl) Mf rfl Tryd.isAgg3) rfl fun hS => sB hS rfl fun hS => zH (v := Value.int .i64) (x0 := (qi ((rd LB.distances_.lengths_ LE) - (1 : Int)))) hS (xv rfl) rfl fun MB a w hz hS => ?_
 have hM := qB hz hM; clear hz
 refine qz <| xJ <| zv (fun Mg a w => ∃ (LF : Int) (LK : Option Addr) (LL : Nat) (LC : (List Int)) (LM : qm) (LN : qm) (LD : Int), Ss 30 [] [(0, qO LG 0), (2, .int .i64 LE), (4, qO L7 0), (6, .int .i64 LD)] H [LN, LM, LS, LT, LU, LV, Ms] F a w ∧ (xh 5 (ci .u8) 1 LK LC LL LM) ∧ (xZ LN LG ([.int .i64 LF, .slice LK LC.length LL, .slice LW LB.literals_.lengths_.length LY, .slice LX LB.literals_.codes_.length LZ, .slice LO LB.distances_.lengths_.length LP, .slice LI LB.distances_.codes_.length LJ]) 49) ∧ (xb.l1 K LB LE Mg LF LC LD).wp kr kp) K ?_ ?_ ?_
 ·exact ⟨LB.Writer_.place_.at_, Mh, Mi, LB.Writer_.bytes_, Mk, Mj, MB, hS.to [1, 2, 3, 4, 5, 6, 0] (by kernel_rfl) ⟨rfl, rfl, rfl, rfl, trivial⟩, Mw, Mv, hM⟩
 ·intro a w hI; obtain ⟨_, _, _, _, _, _, _, _, _, _, hM⟩ := hI; exact zr hM
 ·intro Mg a w hI MC Ml
  obtain ⟨LF, LK, LL, LC, LM, LN, LD, hS, L1, L0, hM⟩ := hI
  rw [xb.l1] at hM
  refine wp_seq <| qk <| sM hS rfl fun hS => sB hS rfl fun hS => qz <| qy hS rfl hM (fun Mm hM => ?_) (fun Mm hM => ?_)
  ·refine wp_skip ?_
   refine qc <| wp_seq <| xJ ?_
   obtain ⟨L5, hM⟩ := qE hM
   obtain ⟨Mn, hM⟩ := qE hM
   refine zh (vals := [some (qO LG 0), some (qO LG 0), some (qO LG 0), some (qO L7 1), some (.slice LI LB.distances_.codes_.length LJ), some (.int .i64 LE), some (xz LI (Int.toNat LE * 1)), some (.int .i64 (rd LB.distances_.codes_ LE)), some (.int .i64 LD), some (.int .i64 (xF .i64 (rd LB.distances_.codes_ LE) LD)), some (.int .i64 (ye .i64 (xF .i64 (rd LB.distances_.codes_ LE) LD) (1 : Int))), some (.int .u32 (wr .u32 (ye .i64 (xF .i64 (rd LB.distances_.codes_ LE) LD) (1 : Int)))), none]) hS xH rfl ?_
   intro l w ho hcl hA hst
   refine jQ hA hst ho hcl xQ xI 12 [0, 1, 2, 3, 4, 5, 6, 7, 8, 9, 10, 11] rfl rfl rfl rfl rfl (by exact ⟨nM rfl, nQ rfl (by exact qY (yu rfl) rfl), nQ rfl (by exact qY (xr rfl Tryd.runUnderlying49 rfl Tryd.sizeOf44 rfl) rfl), nQ rfl (by exact qY (xr rfl Tryd.runUnderlying47 rfl Tryd.sizeOf45 rfl) rfl), nQ rfl (by exact qY (xW 6 rfl Me rfl rfl Tryd.isAgg45) rfl), nM rfl, nQ rfl (by exact qY (x6 rfl rfl Tryd.runUnderlying45 Tryd.sizeOf3 (L4.rd (i := 5) rfl) (fun _ => rfl) rfl L5) rfl), nQ rfl (by exact qY (x9 rfl (L4.rd (i := 5) rfl) (fun _ => rfl) L5 rfl Tryd.isAgg3) rfl), nM rfl, nQ rfl (by exact qY (shr rfl rfl Mn) rfl), nB rfl, nQ rfl (by exact qY (vH rfl Tryd.runUnderlying3 Tryd.runUnderlying53) rfl), trivial⟩) fun D l a w ho hcl hav hpre hm hE hk hA hst => ?_
   have hS := (Ss.mk hE hst).env2 (e' := [(19, qO LG 0), (28, .int .u32 (wr .u32 (ye .i64 (xF .i64 (rd LB.distances_.codes_ LE) LD) (1 : Int))))]) ⟨rfl, rfl, trivial⟩
   refine zi rfl <| qK hS rfl Tryd.call23 (zk hG K (qp.mk (qR.mk (qW.mk LF) LC) LB.literals_ LB.distances_) (wr .u32 (ye .i64 (xF .i64 (rd LB.distances_.codes_ LE) LD) (1 : Int))) (1 : Int) LG LN LK LL LM LW LY LS LX LZ LT LO LP LU LI LJ LV L0 L1 Mx My L3 L4 (hS.st.part 6 [0, 1, 2, 3, 4, 5, 6] (by kernel_rfl)) (qx hM) (fun MA L6 Mp Mq LR Ma Mb w hM Mt Mu hst => qJ hS.ev hst.appF rfl fun hS => ?_))
   replace hS : Ss _ _ _ H [Mb, Ma, LS, LT, LU, LV, Ms] F _ _ := hS
   refine qz ?_
   replace hst := hS.st
   obtain ⟨hcl, hmust, hav2, hA⟩ := dn (vals' := [some (qO LG 0), some (qO LG 0), some (qO LG 0), some (qO L7 1), some (.slice LI LB.distances_.codes_.length LJ), some (.int .i64 LE), some (xz LI (Int.toNat LE * 1)), some (.int .i64 (rd LB.distances_.codes_ LE)), some (.int .i64 LD), some (.int .i64 (xF .i64 (rd LB.distances_.codes_ LE) LD)), some (.int .i64 (ye .i64 (xF .i64 (rd LB.distances_.codes_ LE) LD) (1 : Int))), some (.int .u32 (wr .u32 (ye .i64 (xF .i64 (rd LB.distances_.codes_ LE) LD) (1 : Int)))), some (.int .i64 MA)]) 12 [(2, 12), (11, 12), (1, 2), (10, 11), (0, 1), (9, 10), (7, 9), (8, 9), (6, 7), (4, 6), (5, 6), (3, 4)] hA hcl hav hm hpre hk rfl rfl rfl rfl rfl rfl rfl
   clear hm hav
   refine yo hA hst ho hcl hmust [] rfl rfl rfl trivial fun a w hS => ?_
   replace hS := hS.env2 (e' := [(0, qO LG 0), (2, .int .i64 LE), (4, qO L7 0), (6, .int .i64 LD)]) ⟨rfl, rfl, rfl, rfl, trivial⟩
   refine zz (qc ?_)
   refine zI <| sM hS rfl fun hS => sB hS rfl fun hS => zH (v := Value.int .i64) (x0 := (qi (LD - (1 : Int)))) hS (xv rfl) rfl fun Mz a w hz hS => ?_
   have hM := qB hz hM; clear hz
   refine zd <| qc ?_
   exact Ml _ _ ⟨L6, Mp, Mq, LR, Ma, Mb, Mz, hS.to [0, 1, 2, 3, 4, 5, 6] (by kernel_rfl) ⟨rfl, rfl, rfl, rfl, trivial⟩, Mt, Mu, hM⟩
  ·refine wp_exit ?_
   refine qC (qC (q9 ?_))
   exact vg (rs := []) hS rfl rfl (hret LF LK LL LC LM LN _ (qU hM) L1 L0 (hS.st.pick [0, 1, 2, 3, 4, 5] (by kernel_rfl)))
theorem vM {H : xU} {F : List qm} {w : World} {R : Ending → World → Prop} {kr : (Int × (List Int)) → Prop} {kp : Value → Prop} (hG : Gl H) (K : Nat) (LB : qp) (Mj : qu) (LC : xV) (LE : Nat) (Md : qm) (Mb : Option Addr) (Mc : Nat) (Me : qm) (LQ : Option Addr) (LS : Nat) (LJ : qm) (LR : Option Addr) (LT : Nat) (LK : qm) (LF : Option Addr) (LH : Nat) (LL : qm) (LG : Option Addr) (LI : Nat) (LM : qm) (Mr : xZ Md LE ([.int .i64 LB.Writer_.place_.at_, .slice Mb LB.Writer_.bytes_.length Mc, .slice LQ LB.literals_.lengths_.length LS, .slice LR LB.literals_.codes_.length LT, .slice LF LB.distances_.lengths_.length LH, .slice LG LB.distances_.codes_.length LI]) 49) (Mt : xh 5 (ci .u8) 1 Mb LB.Writer_.bytes_ Mc Me) (L7 : xh 3 (ci .i64) 1 LQ LB.literals_.lengths_ LS LJ) (L8 : xh 3 (ci .i64) 1 LR LB.literals_.codes_ LT LK) (L9 : xh 3 (ci .i64) 1 LF LB.distances_.lengths_ LH LL) (Ma : xh 3 (ci .i64) 1 LG LB.distances_.codes_ LI LM)
    (hS : St w H [Md, Me, LJ, LK, LL, LM] F) (hm : (yj.m K LB Mj LC).wp kr kp)
    (hret : ∀ (LN : Int) (LY : Option Addr) (LZ : Nat) (LD : (List Int)) (L5 : qm) (L6 : qm) (w : World), kr (LN, LD) → (xh 5 (ci .u8) 1 LY LD LZ L5) → (xZ L6 LE ([.int .i64 LN, .slice LY LD.length LZ, .slice LQ LB.literals_.lengths_.length LS, .slice LR LB.literals_.codes_.length LT, .slice LF LB.distances_.lengths_.length LH, .slice LG LB.distances_.codes_.length LI]) 49) → St w H [L6, L5, LJ, LK, LL, LM] F → R (.returned (.tuple ⟨[]⟩)) w) :
    Calls Tryd.prog 50 ⟨[qO LE 0, .agg ⟨[.slice LF LB.distances_.lengths_.length LH, .slice LG LB.distances_.codes_.length LI]⟩, .agg ⟨[.int .i64 LC.symbol_, .int .i64 LC.bits_, .int .u32 LC.more_]⟩]⟩ w R := by
 refine enter Tryd.func50 rfl Tryd.ntmps50 rfl hS fun a w hS => ?_
 have hM := hm; clear hm
 rw [yj.m] at hM
 refine qk <| bx ([.slice LF LB.distances_.lengths_.length LH, .slice LG LB.distances_.codes_.length LI]) hS rfl rfl rfl fun w Mv Mk Ms hS => bx ([.int .i64 LC.symbol_, .int .i64 LC.bits_, .int .u32 LC.more_]) hS rfl rfl rfl fun w LX Ml LU hS => qz <| qk <| sM hS rfl fun hS => sO hS (vT 1 rfl Ms rfl ([.slice LF LB.distances_.lengths_.length LH, .slice LG LB.distances_.codes_.length LI]) rfl rfl Tryd.isAgg47 Tryd.sizeOf47) rfl fun hS => sO hS (xr rfl Tryd.runUnderlying68 rfl Tryd.sizeOf3 rfl) rfl fun hS => sO hS (xW 0 rfl LU rfl rfl Tryd.isAgg3) rfl fun hS => qK hS rfl Tryd.call41 (vj hG K LB LB.distances_ LC.symbol_ LE Md Mb Mc Me LQ LS LJ LR LT LK LF LH LL LG LI LM Mr Mt L7 L8 L9 Ma (hS.st.part 6 [2, 3, 4, 5, 6, 7, 0, 1] (by kernel_rfl)) (qx hM) (fun LV Mf Mh LO L0 L1 w hM Mm Mn hst => qJ hS.ev hst.appF rfl fun hS => ?_))
 replace hS : Ss _ _ _ H [L1, L0, LJ, LK, LL, LM, Ml, Mk] F _ _ := hS
 refine qz <| zh (vals := [some (qO LE 0), some (qO LE 0), some (qO LE 0), some (qO LX 2), some (.int .u32 LC.more_), some (qO LX 1), some (.int .i64 LC.bits_), none]) hS xH rfl ?_
 intro l w ho hcl hA hst
 refine jQ hA hst ho hcl xQ xI 7 [0, 1, 2, 3, 4, 5, 6] rfl rfl rfl rfl rfl (by exact ⟨nM rfl, nQ rfl (by exact qY (yu rfl) rfl), nQ rfl (by exact qY (xr rfl Tryd.runUnderlying49 rfl Tryd.sizeOf44 rfl) rfl), nQ rfl (by exact qY (xr rfl Tryd.runUnderlying68 rfl Tryd.sizeOf53 rfl) rfl), nQ rfl (by exact qY (xW 6 rfl LU rfl rfl Tryd.isAgg53) rfl), nQ rfl (by exact qY (xr rfl Tryd.runUnderlying68 rfl Tryd.sizeOf3 rfl) rfl), nQ rfl (by exact qY (xW 6 rfl LU rfl rfl Tryd.isAgg3) rfl), trivial⟩) fun D l a w ho hcl hav hpre hm hE hk hA hst => ?_
 have hS := (Ss.mk hE hst).env2 (e' := [(13, qO LE 0), (15, .int .u32 LC.more_), (17, .int .i64 LC.bits_)]) ⟨rfl, rfl, rfl, trivial⟩
 refine zi rfl <| qK hS rfl Tryd.call23 (zk hG K (qp.mk (qR.mk (qW.mk LV) LO) LB.literals_ LB.distances_) LC.more_ LC.bits_ LE L1 Mf Mh L0 LQ LS LJ LR LT LK LF LH LL LG LI LM Mn Mm L7 L8 L9 Ma (hS.st.part 6 [0, 1, 2, 3, 4, 5, 6, 7] (by kernel_rfl)) (qx hM) (fun Mu LW Mg Mi LP L3 L4 w hM Mp Mq hst => qJ hS.ev hst.appF rfl fun hS => ?_))
 replace hS : Ss _ _ _ H [L4, L3, LJ, LK, LL, LM, Ml, Mk] F _ _ := hS
 refine qz ?_
 replace hst := hS.st
 obtain ⟨hcl, hmust, hav2, hA⟩ := dn (vals' := [some (qO LE 0), some (qO LE 0), some (qO LE 0), some (qO LX 2), some (.int .u32 LC.more_), some (qO LX 1), some (.int .i64 LC.bits_), some (.int .i64 Mu)]) 7 [(2, 7), (4, 7), (6, 7), (1, 2), (3, 4), (5, 6), (0, 1)] hA hcl hav hm hpre hk rfl rfl rfl rfl rfl rfl rfl
 clear hm hav
 refine yo hA hst ho hcl hmust [] rfl rfl rfl trivial fun a w hS => ?_
 replace hS := hS.env2 (e' := []) trivial
 exact vg (rs := []) hS rfl rfl (hret LW Mg Mi LP L3 L4 _ (qU hM) Mp Mq (hS.st.pick [0, 1, 2, 3, 4, 5] (by kernel_rfl)))
theorem jz {H : xU} {F : List qm} {w : World} {R : Ending → World → Prop} {kr : (Int × (List Int)) → Prop} {kp : Value → Prop} (hG : Gl H) (K : Nat) (LB : qp) (LC : List qv) (LD : Nat) (MQ : qm) (MO : Option Addr) (MP : Nat) (MR : qm) (LG : Option Addr) (LJ : Nat) (LS : qm) (LH : Option Addr) (LK : Nat) (LT : qm) (LO : Option Addr) (LQ : Nat) (LU : qm) (LP : Option Addr) (LR : Nat) (LV : qm) (Ml : Option Addr) (Mr : Nat) (Nf : xZ MQ LD ([.int .i64 LB.Writer_.place_.at_, .slice MO LB.Writer_.bytes_.length MP, .slice LG LB.literals_.lengths_.length LJ, .slice LH LB.literals_.codes_.length LK, .slice LO LB.distances_.lengths_.length LQ, .slice LP LB.distances_.codes_.length LR]) 49) (Ng : xh 5 (ci .u8) 1 MO LB.Writer_.bytes_ MP MR) (Mh : xh 3 (ci .i64) 1 LG LB.literals_.lengths_ LJ LS) (Mi : xh 3 (ci .i64) 1 LH LB.literals_.codes_ LK LT) (Mj : xh 3 (ci .i64) 1 LO LB.distances_.lengths_ LQ LU) (Mk : xh 3 (ci .i64) 1 LP LB.distances_.codes_ LR LV) (MM : jn H [] F qv.cells Ml LC) (Nk : LC.length ≤ Mr)
    (hS : St w H [MQ, MR, LS, LT, LU, LV] F) (hm : (zj.m K LB LC).wp kr kp)
    (hret : ∀ (Md : Int) (MC : Option Addr) (MD : Nat) (L1 : (List Int)) (MK : qm) (ML : qm) (w : World), kr (Md, L1) → (xh 5 (ci .u8) 1 MC L1 MD MK) → (xZ ML LD ([.int .i64 Md, .slice MC L1.length MD, .slice LG LB.literals_.lengths_.length LJ, .slice LH LB.literals_.codes_.length LK, .slice LO LB.distances_.lengths_.length LQ, .slice LP LB.distances_.codes_.length LR]) 49) → St w H [ML, MK, LS, LT, LU, LV] F → R (.returned (.tuple ⟨[]⟩)) w) :
    Calls Tryd.prog 24 ⟨[qO LD 0, .slice Ml LC.length Mr]⟩ w R := by
 refine enter Tryd.func24 rfl Tryd.ntmps24 rfl hS fun a w hS => ?_
 have hM := hm; clear hm
 rw [zj.m] at hM
 refine zx (fun a w => ∃ (L4 : Int) (Mc : Option Addr) (Me : Nat) (LI : (List Int)) (Mf : qm) (Mg : qm), Ss 49 [] [(0, qO LD 0)] H [Mg, Mf, LS, LT, LU, LV] F a w ∧ (xh 5 (ci .u8) 1 Mc LI Me Mf) ∧ (xZ Mg LD ([.int .i64 L4, .slice Mc LI.length Me, .slice LG LB.literals_.lengths_.length LJ, .slice LH LB.literals_.codes_.length LK, .slice LO LB.distances_.lengths_.length LQ, .slice LP LB.distances_.codes_.length LR]) 49) ∧ (zj.j2 K LB L4 LI).wp kr kp) (fun Ni MT => ?_) ?_
 ·refine wp_seq ?_
  refine zI <| sM hS rfl fun hS => sO hS (ya rfl Tryd.runUnderlying25) rfl fun hS => sM hS rfl fun hS => qz <| xJ <| zv (fun MN a w => ∃ (LN : Int) (L7 : Option Addr) (L8 : Nat) (LF : (List Int)) (L5 : qm) (L6 : qm) (LE : Int), Ss 49 [] [(0, qO LD 0), (6, .slice Ml LC.length Mr), (7, .int .i64 (LC.length : Int)), (8, .int .i64 LE)] H [L6, L5, LS, LT, LU, LV] F a w ∧ (xh 5 (ci .u8) 1 L7 LF L8 L5) ∧ (xZ L6 LD ([.int .i64 LN, .slice L7 LF.length L8, .slice LG LB.literals_.lengths_.length LJ, .slice LH LB.literals_.codes_.length LK, .slice LO LB.distances_.lengths_.length LQ, .slice LP LB.distances_.codes_.length LR]) 49) ∧ (zj.l1 K LB LC MN LN LF LE).wp kr kp) K ?_ ?_ ?_
  ·exact ⟨LB.Writer_.place_.at_, MO, MP, LB.Writer_.bytes_, MR, MQ, (0 : Int), hS.to [0, 1, 2, 3, 4, 5] (by kernel_rfl) ⟨rfl, rfl, rfl, rfl, trivial⟩, Ng, Nf, hM⟩
  ·intro a w hI; obtain ⟨_, _, _, _, _, _, _, _, _, _, hM⟩ := hI; exact zr hM
  ·intro MN a w hI Nh Mw
   obtain ⟨LN, L7, L8, LF, L5, L6, LE, hS, Mb, L3, hM⟩ := hI
   rw [zj.l1] at hM
   refine qk <| sB hS rfl fun hS => qz <| wp_seq <| qy hS rfl hM (fun MV hM => ?_) (fun MV hM => ?_)
   ·refine wp_skip ?_
    refine qc <| wp_seq <| xJ <| wp_seq <| zI ?_
    obtain ⟨Mx, hM⟩ := qE hM
    refine sO hS (x6 rfl rfl Tryd.runUnderlying25 Tryd.sizeOf32 MM.wk (fun _ => rfl) rfl Mx) rfl fun hS => sO hS (vS rfl MM.wk (fun _ => rfl) Mx Tryd.isAgg32 Tryd.sizeOf32 rfl) rfl fun hS => QJ ([.int .u8 (0 : Int), .int .i64 (0 : Int), .int .i64 (0 : Int)]) hS Tryd.zeroValue32 rfl rfl fun w LW Nj MS hS => u5 0 ([.int .u8 ((rd LC LE).Lit_), .int .i64 ((rd LC LE).Len_), .int .i64 ((rd LC LE).Dist_)]) ([.int .u8 ((rd LC LE).Lit_), .int .i64 ((rd LC LE).Len_), .int .i64 ((rd LC LE).Dist_)]) hS rfl rfl MS rfl rfl Tryd.sizeOf32 (by simp [Value.oneCell']) (Nat.le_of_ble_eq_true rfl) rfl fun w Ma L9 hS => qz <| wp_seq <| qk <| sO hS (xr rfl Tryd.runUnderlying32 rfl Tryd.sizeOf3 rfl) rfl fun hS => sO hS (xW 0 rfl L9 rfl rfl Tryd.isAgg3) rfl fun hS => sB hS rfl fun hS => qz <| qy hS rfl hM (fun MW hM => ?_) (fun MW hM => ?_)
    ·refine wp_seq ?_
     refine zh (vals := [some (qO LD 0), some (qO LD 0), some (qO LD 0), some (qO LD 2), some (.agg ⟨[.slice LG LB.literals_.lengths_.length LJ, .slice LH LB.literals_.codes_.length LK]⟩), some (qO LW 0), some (.int .u8 ((rd LC LE).Lit_)), some (.int .i64 (wr .i64 (rd LC LE).Lit_)), none]) hS xH rfl ?_
     intro l w ho hcl hA hst
     refine jQ hA hst ho hcl xQ xI 8 [0, 1, 2, 3, 4, 5, 6, 7] rfl rfl rfl rfl rfl (by exact ⟨nM rfl, nM rfl, nQ rfl (by exact qY (yu rfl) rfl), nQ rfl (by exact qY (xr rfl Tryd.runUnderlying49 rfl Tryd.sizeOf47 rfl) rfl), nQ rfl (by exact qY (vT 1 rfl L3 rfl ([.slice LG LB.literals_.lengths_.length LJ, .slice LH LB.literals_.codes_.length LK]) rfl rfl Tryd.isAgg47 Tryd.sizeOf47) rfl), nQ rfl (by exact qY (xr rfl Tryd.runUnderlying32 rfl Tryd.sizeOf5 rfl) rfl), nQ rfl (by exact qY (xW 0 rfl L9 rfl rfl Tryd.isAgg5) rfl), nQ rfl (by exact qY (vH rfl Tryd.runUnderlying5 Tryd.runUnderlying3) rfl), trivial⟩) fun D l a w ho hcl hav hpre hm hE hk hA hst => ?_
     have hS := (Ss.mk hE hst).env2 (e' := [(15, qO LD 0), (19, .agg ⟨[.slice LG LB.literals_.lengths_.length LJ, .slice LH LB.literals_.codes_.length LK]⟩), (22, .int .i64 (wr .i64 (rd LC LE).Lit_))]) ⟨rfl, rfl, rfl, trivial⟩
     refine zi rfl <| qK hS rfl Tryd.call41 (yn hG K (qp.mk (qR.mk (qW.mk LN) LF) LB.literals_ LB.distances_) LB.literals_ (wr .i64 (rd LC LE).Lit_) LD L6 L7 L8 L5 LG LJ LS LH LK LT LO LQ LU LP LR LV L3 Mb Mh Mi Mj Mk (hS.st.part 6 [1, 2, 3, 4, 5, 6, 0] (by kernel_rfl)) (qx hM) (fun My MX M3 Mm ME MF w hM M7 M8 hst => qJ hS.ev hst.appF rfl fun hS => ?_))
     replace hS : Ss _ _ _ H [MF, ME, LS, LT, LU, LV, Ma] F _ _ := hS
     refine qz ?_
     replace hst := hS.st
     obtain ⟨hcl, hmust, hav2, hA⟩ := dn (vals' := [some (qO LD 0), some (qO LD 0), some (qO LD 0), some (qO LD 2), some (.agg ⟨[.slice LG LB.literals_.lengths_.length LJ, .slice LH LB.literals_.codes_.length LK]⟩), some (qO LW 0), some (.int .u8 ((rd LC LE).Lit_)), some (.int .i64 (wr .i64 (rd LC LE).Lit_)), some (.tuple ⟨[]⟩)]) 8 [(0, 8), (4, 8), (7, 8), (3, 4), (6, 7), (2, 3), (5, 6), (1, 2)] hA hcl hav hm hpre hk rfl rfl rfl rfl rfl rfl rfl
     clear hm hav
     refine yo hA hst ho hcl hmust [] rfl rfl rfl trivial fun a w hS => ?_
     replace hS := hS.env2 (e' := [(0, qO LD 0), (6, .slice Ml LC.length Mr), (7, .int .i64 (LC.length : Int)), (8, .int .i64 LE)]) ⟨rfl, rfl, rfl, rfl, trivial⟩
     refine qc <| wp_exit <| qC (q9 (qc ?_))
     refine zI <| sB hS rfl fun hS => sM hS rfl fun hS => zd <| qc ?_
     exact Mw _ _ ⟨My, MX, M3, Mm, ME, MF, (qi (LE + (1 : Int))), hS.to [0, 1, 2, 3, 4, 5] (by kernel_rfl) ⟨rfl, rfl, rfl, rfl, trivial⟩, M7, M8, hM⟩
    ·refine wp_skip ?_
     refine qc <| wp_seq <| zh (vals := [some (qO LD 0), some (qO LD 0), some (qO LD 0), some (qO LD 2), some (.agg ⟨[.slice LG LB.literals_.lengths_.length LJ, .slice LH LB.literals_.codes_.length LK]⟩), some (qO LW 1), some (.int .i64 ((rd LC LE).Len_)), none, none]) hS xH rfl ?_
     intro l w ho hcl hA hst
     refine jQ hA hst ho hcl xQ xI 7 [0, 1, 2, 3, 4, 5, 6] rfl rfl rfl rfl rfl (by exact ⟨nM rfl, nM rfl, nQ rfl (by exact qY (yu rfl) rfl), nQ rfl (by exact qY (xr rfl Tryd.runUnderlying49 rfl Tryd.sizeOf47 rfl) rfl), nQ rfl (by exact qY (vT 1 rfl L3 rfl ([.slice LG LB.literals_.lengths_.length LJ, .slice LH LB.literals_.codes_.length LK]) rfl rfl Tryd.isAgg47 Tryd.sizeOf47) rfl), nQ rfl (by exact qY (xr rfl Tryd.runUnderlying32 rfl Tryd.sizeOf3 rfl) rfl), nQ rfl (by exact qY (xW 0 rfl L9 rfl rfl Tryd.isAgg3) rfl), trivial⟩) fun D l a w ho hcl hav hpre hm hE hk hA hst => ?_
     have hS := (Ss.mk hE hst).env2 (e' := [(30, .int .i64 ((rd LC LE).Len_))]) ⟨rfl, trivial⟩
     refine zi rfl <| qK hS rfl Tryd.call35 (uF hG K ((rd LC LE).Len_) (hS.st.part 0 [0, 1, 2, 3, 4, 5, 6] (by kernel_rfl)) (qx hM) (fun LL LX LZ w hM  hst => qJ hS.ev hst.appF rfl fun hS => ?_))
     replace hS : Ss _ _ _ H [Ma, L6, L5, LS, LT, LU, LV] F _ _ := hS
     refine qz ?_
     replace hst := hS.st
     obtain ⟨hcl, hmust, hav2, hA⟩ := dn (vals' := [some (qO LD 0), some (qO LD 0), some (qO LD 0), some (qO LD 2), some (.agg ⟨[.slice LG LB.literals_.lengths_.length LJ, .slice LH LB.literals_.codes_.length LK]⟩), some (qO LW 1), some (.int .i64 ((rd LC LE).Len_)), some (.agg ⟨[.int .i64 LL, .int .i64 LX, .int .u32 LZ]⟩), none]) 7 [(6, 7), (5, 6)] hA hcl hav hm hpre hk rfl rfl rfl rfl rfl rfl rfl
     clear hm hav
     refine jQ hA hst ho hcl hav2 hmust 8 [0, 1, 2, 3, 4] rfl rfl rfl rfl rfl (by exact ⟨nM rfl, nM rfl, nQ rfl (by exact qY (yu rfl) rfl), nQ rfl (by exact qY (xr rfl Tryd.runUnderlying49 rfl Tryd.sizeOf47 rfl) rfl), nQ rfl (by exact qY (vT 1 rfl L3 rfl ([.slice LG LB.literals_.lengths_.length LJ, .slice LH LB.literals_.codes_.length LK]) rfl rfl Tryd.isAgg47 Tryd.sizeOf47) rfl), trivial⟩) fun D l a w ho hcl hav hpre hm hE hk hA hst => ?_
     have hS := (Ss.mk hE hst).env2 (e' := [(24, qO LD 0), (28, .agg ⟨[.slice LG LB.literals_.lengths_.length LJ, .slice LH LB.literals_.codes_.length LK]⟩), (31, .agg ⟨[.int .i64 LL, .int .i64 LX, .int .u32 LZ]⟩)]) ⟨rfl, rfl, rfl, trivial⟩
     refine zi rfl <| qK hS rfl Tryd.call50 (vL hG K (qp.mk (qR.mk (qW.mk LN) LF) LB.literals_ LB.distances_) LB.literals_ (xV.mk LL LX LZ) LD L6 L7 L8 L5 LG LJ LS LH LK LT LO LQ LU LP LR LV L3 Mb Mh Mi Mj Mk (hS.st.part 6 [1, 2, 3, 4, 5, 6, 0] (by kernel_rfl)) (qx hM) (fun Mz MY M4 Mn Ms Mt w hM M9 Mu hst => qJ hS.ev hst.appF rfl fun hS => ?_))
     replace hS : Ss _ _ _ H [Mt, Ms, LS, LT, LU, LV, Ma] F _ _ := hS
     refine qz ?_
     replace hst := hS.st
     obtain ⟨hcl, hmust, hav2, hA⟩ := dn (vals' := [some (qO LD 0), some (qO LD 0), some (qO LD 0), some (qO LD 2), some (.agg ⟨[.slice LG LB.literals_.lengths_.length LJ, .slice LH LB.literals_.codes_.length LK]⟩), some (qO LW 1), some (.int .i64 ((rd LC LE).Len_)), some (.agg ⟨[.int .i64 LL, .int .i64 LX, .int .u32 LZ]⟩), some (.tuple ⟨[]⟩)]) 8 [(0, 8), (4, 8), (7, 8), (3, 4), (6, 7), (2, 3), (5, 6), (1, 2)] hA hcl hav hm hpre hk rfl rfl rfl rfl rfl rfl rfl
     clear hm hav
     refine yo hA hst ho hcl hmust [] rfl rfl rfl trivial fun a w hS => ?_
     replace hS := hS.env2 (e' := [(0, qO LD 0), (5, qO LW 0), (6, .slice Ml LC.length Mr), (7, .int .i64 (LC.length : Int)), (8, .int .i64 LE)]) ⟨rfl, rfl, rfl, rfl, rfl, trivial⟩
     refine qc <| zh (vals := [some (qO LD 0), some (qO LD 0), some (qO LD 0), some (qO LD 4), some (.agg ⟨[.slice LO LB.distances_.lengths_.length LQ, .slice LP LB.distances_.codes_.length LR]⟩), some (qO LW 2), some (.int .i64 ((rd LC LE).Dist_)), none, none]) hS xH rfl ?_
     intro l w ho hcl hA hst
     refine jQ hA hst ho hcl xQ xI 7 [0, 1, 2, 3, 4, 5, 6] rfl rfl rfl rfl rfl (by exact ⟨nM rfl, nM rfl, nQ rfl (by exact qY (yu rfl) rfl), nQ rfl (by exact qY (xr rfl Tryd.runUnderlying49 rfl Tryd.sizeOf47 rfl) rfl), nQ rfl (by exact qY (vT 0 rfl Mu rfl ([.slice LO LB.distances_.lengths_.length LQ, .slice LP LB.distances_.codes_.length LR]) rfl rfl Tryd.isAgg47 Tryd.sizeOf47) rfl), nQ rfl (by exact qY (xr rfl Tryd.runUnderlying32 rfl Tryd.sizeOf3 rfl) rfl), nQ rfl (by exact qY (xW 6 rfl L9 rfl rfl Tryd.isAgg3) rfl), trivial⟩) fun D l a w ho hcl hav hpre hm hE hk hA hst => ?_
     have hS := (Ss.mk hE hst).env2 (e' := [(39, .int .i64 ((rd LC LE).Dist_))]) ⟨rfl, trivial⟩
     refine zi rfl <| qK hS rfl Tryd.call36 (vJ hG K ((rd LC LE).Dist_) (hS.st.part 0 [0, 1, 2, 3, 4, 5, 6] (by kernel_rfl)) (qx hM) (fun LM LY L0 w hM  hst => qJ hS.ev hst.appF rfl fun hS => ?_))
     replace hS : Ss _ _ _ H [Mt, Ms, LS, LT, LU, LV, Ma] F _ _ := hS
     refine qz ?_
     replace hst := hS.st
     obtain ⟨hcl, hmust, hav2, hA⟩ := dn (vals' := [some (qO LD 0), some (qO LD 0), some (qO LD 0), some (qO LD 4), some (.agg ⟨[.slice LO LB.distances_.lengths_.length LQ, .slice LP LB.distances_.codes_.length LR]⟩), some (qO LW 2), some (.int .i64 ((rd LC LE).Dist_)), some (.agg ⟨[.int .i64 LM, .int .i64 LY, .int .u32 L0]⟩), none]) 7 [(6, 7), (5, 6)] hA hcl hav hm hpre hk rfl rfl rfl rfl rfl rfl rfl
     clear hm hav
     refine jQ hA hst ho hcl hav2 hmust 8 [0, 1, 2, 3, 4] rfl rfl rfl rfl rfl (by exact ⟨nM rfl, nM rfl, nQ rfl (by exact qY (yu rfl) rfl), nQ rfl (by exact qY (xr rfl Tryd.runUnderlying49 rfl Tryd.sizeOf47 rfl) rfl), nQ rfl (by exact qY (vT 0 rfl Mu rfl ([.slice LO LB.distances_.lengths_.length LQ, .slice LP LB.distances_.codes_.length LR]) rfl rfl Tryd.isAgg47 Tryd.sizeOf47) rfl), trivial⟩) fun D l a w ho hcl hav hpre hm hE hk hA hst => ?_
     have hS := (Ss.mk hE hst).env2 (e' := [(33, qO LD 0), (37, .agg ⟨[.slice LO LB.distances_.lengths_.length LQ, .slice LP LB.distances_.codes_.length LR]⟩), (40, .agg ⟨[.int .i64 LM, .int .i64 LY, .int .u32 L0]⟩)]) ⟨rfl, rfl, rfl, trivial⟩
     refine zi rfl <| qK hS rfl Tryd.call50 (vM hG K (qp.mk (qR.mk (qW.mk Mz) Mn) LB.literals_ LB.distances_) LB.distances_ (xV.mk LM LY L0) LD Mt MY M4 Ms LG LJ LS LH LK LT LO LQ LU LP LR LV Mu M9 Mh Mi Mj Mk (hS.st.part 6 [0, 1, 2, 3, 4, 5, 6] (by kernel_rfl)) (qx hM) (fun MA MZ M5 Mp MG MH w hM Na Nb hst => qJ hS.ev hst.appF rfl fun hS => ?_))
     replace hS : Ss _ _ _ H [MH, MG, LS, LT, LU, LV, Ma] F _ _ := hS
     refine qz ?_
     replace hst := hS.st
     obtain ⟨hcl, hmust, hav2, hA⟩ := dn (vals' := [some (qO LD 0), some (qO LD 0), some (qO LD 0), some (qO LD 4), some (.agg ⟨[.slice LO LB.distances_.lengths_.length LQ, .slice LP LB.distances_.codes_.length LR]⟩), some (qO LW 2), some (.int .i64 ((rd LC LE).Dist_)), some (.agg ⟨[.int .i64 LM, .int .i64 LY, .int .u32 L0]⟩), some (.tuple ⟨[]⟩)]) 8 [(0, 8), (4, 8), (7, 8), (3, 4), (6, 7), (2, 3), (5, 6), (1, 2)] hA hcl hav hm hpre hk rfl rfl rfl rfl rfl rfl rfl
     clear hm hav
     refine yo hA hst ho hcl hmust [] rfl rfl rfl trivial fun a w hS => ?_
     replace hS := hS.env2 (e' := [(0, qO LD 0), (6, .slice Ml LC.length Mr), (7, .int .i64 (LC.length : Int)), (8, .int .i64 LE)]) ⟨rfl, rfl, rfl, rfl, trivial⟩
     refine zz (qc ?_)
     refine zI <| sB hS rfl fun hS => sM hS rfl fun hS => zd <| qc ?_
     exact Mw _ _ ⟨MA, MZ, M5, Mp, MG, MH, (qi (LE + (1 : Int))), hS.to [0, 1, 2, 3, 4, 5] (by kernel_rfl) ⟨rfl, rfl, rfl, rfl, trivial⟩, Na, Nb, hM⟩
   ·refine wp_exit ?_
    refine qC (qC (q9 (qc ?_)))
    exact MT _ _ ⟨LN, L7, L8, LF, L5, L6, hS.to [0, 1, 2, 3, 4, 5] (by kernel_rfl) ⟨rfl, trivial⟩, Mb, L3, hM⟩
 ·intro a w hI
  obtain ⟨L4, Mc, Me, LI, Mf, Mg, hS, MU, Mv, hM⟩ := hI
  rw [zj.j2] at hM
  refine zI <| sM hS rfl fun hS => sM hS rfl fun hS => sO hS (yu rfl) rfl fun hS => sO hS (xr rfl Tryd.runUnderlying49 rfl Tryd.sizeOf47 rfl) rfl fun hS => sO hS (vT 0 rfl Mv rfl ([.slice LG LB.literals_.lengths_.length LJ, .slice LH LB.literals_.codes_.length LK]) rfl rfl Tryd.isAgg47 Tryd.sizeOf47) rfl fun hS => qK hS rfl Tryd.call41 (yn hG K (qp.mk (qR.mk (qW.mk L4) LI) LB.literals_ LB.distances_) LB.literals_ (256 : Int) LD Mg Mc Me Mf LG LJ LS LH LK LT LO LQ LU LP LR LV Mv MU Mh Mi Mj Mk (hS.st.part 6 [0, 1, 2, 3, 4, 5] (by kernel_rfl)) (qx hM) (fun MB M0 M6 Mq MI MJ w hM Nc Nd hst => qJ hS.ev hst.appF rfl fun hS => ?_))
  replace hS : Ss _ _ _ H [MJ, MI, LS, LT, LU, LV] F _ _ := hS
  refine zd ?_
  exact vg (rs := []) hS rfl rfl (hret MB M0 M6 Mq MI MJ _ (qU hM) Nc Nd (hS.st.pick [0, 1, 2, 3, 4, 5] (by kernel_rfl)))
theorem yt {H : xU} {F : List qm} {w : World} {R : Ending → World → Prop} {kr : (List UInt8) → Prop} {kp : Value → Prop} (hG : Gl H) (K : Nat) (LB : qp) (LN : Nat) (LC : qm) (LI : Option Addr) (LO : Nat) (LD : qm) (LJ : Option Addr) (LP : Nat) (LE : qm) (LK : Option Addr) (LQ : Nat) (LF : qm) (LL : Option Addr) (LR : Nat) (LG : qm) (LM : Option Addr) (LS : Nat) (LH : qm) (LU : xZ LC LN ([.int .i64 LB.Writer_.place_.at_, .slice LI LB.Writer_.bytes_.length LO, .slice LJ LB.literals_.lengths_.length LP, .slice LK LB.literals_.codes_.length LQ, .slice LL LB.distances_.lengths_.length LR, .slice LM LB.distances_.codes_.length LS]) 49) (LV : xh 5 (ci .u8) 1 LI LB.Writer_.bytes_ LO LD) (LX : xh 3 (ci .i64) 1 LJ LB.literals_.lengths_ LP LE) (LY : xh 3 (ci .i64) 1 LK LB.literals_.codes_ LQ LF) (LZ : xh 3 (ci .i64) 1 LL LB.distances_.lengths_ LR LG) (L0 : xh 3 (ci .i64) 1 LM LB.distances_.codes_ LS LH)
    (hS : St w H [LC, LD, LE, LF, LG, LH] F) (hm : (z5.m K LB).wp kr kp)
    (hret : ∀ (LT : List UInt8) (w : World), kr LT → St w H [LC, LD, LE, LF, LG, LH] F → R (.returned (yb LT)) w) :
    Calls Tryd.prog 25 ⟨[qO LN 0]⟩ w R := by
 refine enter Tryd.func25 rfl Tryd.ntmps25 rfl hS fun a w hS => ?_
 have hM := hm; clear hm
 rw [z5.m] at hM
 refine qk <| sA hS rfl fun hS => qz <| wp_seq <| qk <| sM hS rfl fun hS => sO hS (DE rfl rfl Tryd.runUnderlying103) rfl fun hS => qz <| Dw hS rfl <| wp_skip <| qc <| qk <| sM hS rfl fun hS => sO hS (yu rfl) rfl fun hS => sO hS (xr rfl Tryd.runUnderlying44 rfl Tryd.sizeOf38 rfl) rfl fun hS => sO hS (xW 0 rfl LU rfl rfl Tryd.isAgg38) rfl fun hS => sO hS (Gq rfl Tryd.runUnderlying38 Tryd.runUnderlying5 Tryd.runUnderlying9 (LV.rd (i := 1) rfl)) rfl fun hS => zH (v := yb) (x0 := (LB.Writer_.bytes_.map Q5)) hS (xv rfl) rfl fun LW a w hz hS => ?_
 have hM := qB hz hM; clear hz
 refine qz <| wp_ret ?_
 exact zm (rs := [2]) hS rfl rfl (hret LW _ (qU hM) (hS.st.pick [0, 1, 2, 3, 4, 5] (by kernel_rfl)))
theorem u9 {H : xU} {F : List qm} {w : World} {R : Ending → World → Prop} {kr : ((List UInt8) × Int) → Prop} {kp : Value → Prop} (hG : Gl H) (K : Nat) (l_7 : List qv) (A8 : Option Addr) (c9 : Nat) (Md : jn H [] F qv.cells A8 l_7) (Mc : l_7.length ≤ c9)
    (hS : St w H [] F) (hm : (yA.m K l_7).wp kr kp)
    (hret : ∀ (LW : List UInt8) (LX : Int) (w : World), kr (LW, LX) → St w H [] F → R (.returned (.tuple ⟨[yb LW, .int .i64 LX]⟩)) w) :
    Calls Tryd.prog 12 ⟨[.slice A8 l_7.length c9]⟩ w R := by
 refine enter Tryd.func12 rfl Tryd.ntmps12 rfl hS fun a w hS => ?_
 have hM := hm; clear hm
 rw [yA.m] at hM
 refine qk <| sA hS rfl fun hS => sA hS rfl fun hS => qz <| wp_seq <| qk <| sM hS rfl fun hS => qK hS rfl Tryd.call21 (Qj hG K l_7 A8 c9 (Md.app _) Mc (hS.st.part 0 [] (by kernel_rfl)) (qx hM) (fun MB w hM  hst => qJ hS.ev hst.appF rfl fun hS => ?_))
 replace hS : Ss _ _ _ H [] F _ _ := hS
 refine sO hS (un rfl rfl) rfl fun hS => qz <| qy hS rfl hM (fun Ms hM => ?_) (fun Ms hM => ?_)
 ·refine wp_seq ?_
  refine zI <| sA hS rfl fun hS => sA hS rfl fun hS => qz <| wp_ret <| qA ?_
  exact zm (rs := [2, 3]) hS rfl rfl (hret ([] : List UInt8) (1 : Int) _ (qU hM) (hS.st.pick [] (by kernel_rfl)))
 ·refine wp_skip ?_
  refine qc <| qk <| sO hS (Zq ([.int .i64 (0 : Int), .slice none 0 0, .slice none 0 0, .slice none 0 0, .slice none 0 0, .slice none 0 0]) [(0, 2), (2, 2), (4, 2)] Tryd.zeroValue49 Tryd.runUnderlying49 (by intro w; simp [Tryd.sizeOf44, Tryd.sizeOf47]) rfl rfl) rfl fun hS => bx ([.int .i64 (0 : Int), .slice none 0 0, .slice none 0 0, .slice none 0 0, .slice none 0 0, .slice none 0 0]) hS rfl rfl rfl fun w Mk Mv Mq hS => ?_
  obtain ⟨Mt, Mr, hS⟩ := hS.nilV 5 (ci .u8) 1
  obtain ⟨Mf, Mw, hS⟩ := hS.nilV 3 (ci .i64) 1
  obtain ⟨Mg, Mx, hS⟩ := hS.nilV 3 (ci .i64) 1
  obtain ⟨Mh, My, hS⟩ := hS.nilV 3 (ci .i64) 1
  obtain ⟨Mi, Mz, hS⟩ := hS.nilV 3 (ci .i64) 1
  refine sA hS rfl fun hS => qz <| qk <| sM hS rfl fun hS => sM hS rfl fun hS => qK hS rfl Tryd.call22 (Qk hG K  (hS.st.part 0 [0, 1, 2, 3, 4, 5] (by kernel_rfl)) (qx hM) (fun LJ LM LB LF LK LN LD LG LO LR LC LH LP LS LE LI w hM LZ L0 L1 L3 hst => qJ hS.ev hst.appF rfl fun hS => ?_))
  replace hS : Ss _ _ _ H [LF, LG, LH, LI, Mi, Mh, Mg, Mf, Mt, Mv] F _ _ := hS
  refine sM hS rfl fun hS => sO hS (ex rfl rfl) rfl fun hS => sO hS (ex rfl rfl) rfl fun hS => sO hS (yu rfl) rfl fun hS => sO hS (xr rfl Tryd.runUnderlying49 rfl Tryd.sizeOf47 rfl) rfl fun hS => u5 9 ([.slice LJ LB.length LM, .slice LK LD.length LN]) ([.int .i64 (0 : Int), .slice none ([] : List Int).length (0), .slice LJ LB.length LM, .slice LK LD.length LN, .slice none ([] : List Int).length (0), .slice none ([] : List Int).length (0)]) hS rfl rfl Mq rfl rfl Tryd.sizeOf47 (by simp [Value.oneCell']) (Nat.le_of_ble_eq_true rfl) rfl fun w Mu Ma hS => sO hS (yu rfl) rfl fun hS => sO hS (xr rfl Tryd.runUnderlying49 rfl Tryd.sizeOf47 rfl) rfl fun hS => u5 9 ([.slice LO LC.length LR, .slice LP LE.length LS]) ([.int .i64 (0 : Int), .slice none ([] : List Int).length (0), .slice LJ LB.length LM, .slice LK LD.length LN, .slice LO LC.length LR, .slice LP LE.length LS]) hS rfl rfl Ma rfl rfl Tryd.sizeOf47 (by simp [Value.oneCell']) (Nat.le_of_ble_eq_true rfl) rfl fun w Mm Mb hS => qz <| qk <| sM hS rfl fun hS => sO hS (yu rfl) rfl fun hS => sO hS (xr rfl Tryd.runUnderlying49 rfl Tryd.sizeOf44 rfl) rfl fun hS => qK hS rfl Tryd.call23 (zk hG K (qp.mk (qR.mk (qW.mk (0 : Int)) ([] : List Int)) (qu.mk LB LD) (qu.mk LC LE)) (3 : Int) (3 : Int) Mk Mm none (0) Mt LJ LM LF LK LN LG LO LR LH LP LS LI Mb Mr LZ L0 L1 L3 (hS.st.part 6 [9, 8, 0, 1, 2, 3, 4, 5, 6, 7] (by kernel_rfl)) (qx hM) (fun MA LY Mj Ml LQ L6 L7 w hM Mn Mp hst => qJ hS.ev hst.appF rfl fun hS => ?_))
  replace hS : Ss _ _ _ H [L7, L6, LF, LG, LH, LI, Mi, Mh, Mg, Mf] F _ _ := hS
  refine qz <| qk <| sM hS rfl fun hS => sM hS rfl fun hS => qK hS rfl Tryd.call24 (jz hG K (qp.mk (qR.mk (qW.mk LY) LQ) (qu.mk LB LD) (qu.mk LC LE)) l_7 Mk L7 Mj Ml L6 LJ LM LF LK LN LG LO LR LH LP LS LI A8 c9 Mp Mn LZ L0 L1 L3 (Md.app _) Mc (hS.st.part 6 [0, 1, 2, 3, 4, 5, 6, 7, 8, 9] (by kernel_rfl)) (qx hM) (fun LV L4 L5 LL LT LU w hM L8 L9 hst => qJ hS.ev hst.appF rfl fun hS => ?_))
  replace hS : Ss _ _ _ H [LU, LT, LF, LG, LH, LI, Mi, Mh, Mg, Mf] F _ _ := hS
  refine qz <| qk <| sM hS rfl fun hS => sO hS (yu rfl) rfl fun hS => sO hS (xr rfl Tryd.runUnderlying49 rfl Tryd.sizeOf44 rfl) rfl fun hS => qK hS rfl Tryd.call25 (yt hG K (qp.mk (qR.mk (qW.mk LV) LL) (qu.mk LB LD) (qu.mk LC LE)) Mk LU L4 L5 LT LJ LM LF LK LN LG LO LR LH LP LS LI L9 L8 LZ L0 L1 L3 (hS.st.part 6 [0, 1, 2, 3, 4, 5, 6, 7, 8, 9] (by kernel_rfl)) (qx hM) (fun Me w hM  hst => qJ hS.ev hst.appF rfl fun hS => ?_))
  replace hS : Ss _ _ _ H [LU, LT, LF, LG, LH, LI, Mi, Mh, Mg, Mf] F _ _ := hS
  refine sA hS rfl fun hS => sA hS rfl fun hS => qz <| wp_ret ?_
  exact zm (rs := [2, 3]) hS rfl rfl (hret Me (0 : Int) _ (qU hM) (hS.st.pick [] (by kernel_rfl)))
theorem ZD {H : xU} {F : List qm} {w : World} {R : Ending → World → Prop} {kr : Bool → Prop} {kp : Value → Prop} (hG : Gl H) (K : Nat) (LB : Int)
    (hS : St w H [] F) (hm : (jF.m K LB).wp kr kp)
    (hret : ∀ (LC : Bool) (w : World), kr LC → St w H [] F → R (.returned (.bool LC)) w) :
    Calls Tryd.prog 55 ⟨[.int .i64 LB]⟩ w R := by
 refine enter Tryd.func55 rfl Tryd.ntmps55 rfl hS fun a w hS => ?_
 have hM := hm; clear hm
 rw [jF.m] at hM
 refine qk <| sA hS rfl fun hS => qz <| qk <| sM hS rfl fun hS => sB hS rfl fun hS => sM hS rfl fun hS => yw 2 false 5 (b := (decide (LB < (0 : Int)))) (r := (decide (LB > (1099511627776 : Int)))) hS rfl rfl rfl rfl rfl rfl rfl (fun hb a w hS K hK => ?_) rfl fun a w hS => ?_
 ·refine zK hS rfl rfl rfl hb (mv rfl) rfl fun a w hS => ?_
  refine zK hS rfl rfl rfl hb (yZ rfl rfl rfl) rfl fun a w hS => ?_
  exact zd (hK _ _ (hS.up 2 rfl rfl))
 refine zH (v := Value.bool) (x0 := ((decide (LB < (0 : Int))) || (decide (LB > (1099511627776 : Int))))) hS (xv rfl) rfl fun LD a w hz hS => ?_
 have hM := qB hz hM; clear hz
 refine qz <| wp_ret ?_
 exact zm (rs := [2]) hS rfl rfl (hret LD _ (qU hM) (hS.st.pick [] (by kernel_rfl)))
theorem jx {H : xU} {F : List qm} {w : World} {R : Ending → World → Prop} {kr : Int → Prop} {kp : Value → Prop} (hG : Gl H) (K : Nat) (LB : List Int) (LD : Option Addr) (LE : Nat) (LG : jn H [] F (ci .i64) LD LB) (LM : LB.length ≤ LE)
    (hS : St w H [] F) (hm : (zG.m K LB).wp kr kp)
    (hret : ∀ (LI : Int) (w : World), kr LI → St w H [] F → R (.returned (.int .i64 LI)) w) :
    Calls Tryd.prog 80 ⟨[.slice LD LB.length LE, vC 55 [] []]⟩ w R := by
 refine enter Tryd.func80 rfl Tryd.ntmps80 rfl hS fun a w hS => ?_
 have hM := hm; clear hm
 rw [zG.m] at hM
 refine qk <| sA hS rfl fun hS => qz <| wp_seq <| qk <| sM hS rfl fun hS => sO hS (ya rfl Tryd.runUnderlying45) rfl fun hS => sM hS rfl fun hS => qz <| xJ <| zv (fun LH a w => ∃ (LC : Int), Ss 19 [] [(0, .slice LD LB.length LE), (1, vC 55 [] []), (7, .int .i64 (LB.length : Int)), (8, .int .i64 LC)] H [] F a w ∧ (zG.l1 K LB LH LC).wp kr kp) K ?_ ?_ ?_
 ·exact ⟨(0 : Int), hS.to [] (by kernel_rfl) ⟨rfl, rfl, rfl, rfl, trivial⟩, hM⟩
 ·intro a w hI; obtain ⟨_, _, hM⟩ := hI; exact zr hM
 ·intro LH a w hI LN LJ
  obtain ⟨LC, hS, hM⟩ := hI
  rw [zG.l1] at hM
  refine qk <| sB hS rfl fun hS => qz <| wp_seq <| qy hS rfl hM (fun LK hM => ?_) (fun LK hM => ?_)
  ·refine wp_skip ?_
   refine qc <| wp_seq <| xJ <| qk <| sM hS rfl fun hS => sA hS rfl fun hS => qz <| qk <| sM hS rfl fun hS => sM hS rfl fun hS => sM hS rfl fun hS => ?_
   obtain ⟨LF, hM⟩ := qE hM
   refine sO hS (x6 rfl rfl Tryd.runUnderlying45 Tryd.sizeOf3 LG.wk (fun _ => rfl) rfl LF) rfl fun hS => sO hS (x9 rfl LG.wk (fun _ => rfl) LF rfl Tryd.isAgg3) rfl fun hS => Zk hS rfl rfl Tryd.call55 (ZD hG K (rd LB LC) (hS.st.part 0 [] (by kernel_rfl)) (qx hM) (fun LO w hM  hst => qJ hS.ev hst.appF rfl fun hS => ?_))
   replace hS : Ss _ _ _ H [] F _ _ := hS
   refine qz <| qy hS rfl hM (fun LL hM => ?_) (fun LL hM => ?_)
   ·refine wp_seq ?_
    refine zI <| sM hS rfl fun hS => sA hS rfl fun hS => qz <| wp_ret <| z3 (qA (qA (z3 (qA ?_))))
    exact zm (rs := [4]) hS rfl rfl (hret LC _ (qU hM) (hS.st.pick [] (by kernel_rfl)))
   ·refine wp_skip ?_
    refine zz (qc ?_)
    refine zI <| sB hS rfl fun hS => sM hS rfl fun hS => zd <| qc ?_
    exact LJ _ _ ⟨(qi (LC + (1 : Int))), hS.to [] (by kernel_rfl) ⟨rfl, rfl, rfl, rfl, trivial⟩, hM⟩
  ·refine wp_exit ?_
   refine qC (qC (q9 (qc ?_)))
   refine qk <| sA hS rfl fun hS => qz <| wp_ret ?_
   exact zm (rs := [4]) hS rfl rfl (hret (-1 : Int) _ (qU hM) (hS.st.pick [] (by kernel_rfl)))
theorem jl {H : xU} {F : List qm} {w : World} {R : Ending → World → Prop} {kr : Bool → Prop} {kp : Value → Prop} (hG : Gl H) (K : Nat) (LB : List Int) (LC : Option Addr) (LD : Nat) (LG : jn H [] F (ci .i64) LC LB) (LF : LB.length ≤ LD)
    (hS : St w H [] F) (hm : (xy.m K LB).wp kr kp)
    (hret : ∀ (LE : Bool) (w : World), kr LE → St w H [] F → R (.returned (.bool LE)) w) :
    Calls Tryd.prog 54 ⟨[.slice LC LB.length LD, vC 55 [] []]⟩ w R := by
 refine enter Tryd.func54 rfl Tryd.ntmps54 rfl hS fun a w hS => ?_
 have hM := hm; clear hm
 rw [xy.m] at hM
 refine qk <| sA hS rfl fun hS => qz <| qk <| sM hS rfl fun hS => sM hS rfl fun hS => qK hS rfl Tryd.call80 (jx hG K LB LC LD (LG.app _) LF (hS.st.part 0 [] (by kernel_rfl)) (qx hM) (fun LI w hM  hst => qJ hS.ev hst.appF rfl fun hS => ?_))
 replace hS : Ss _ _ _ H [] F _ _ := hS
 refine sB hS rfl fun hS => zH (v := Value.bool) (x0 := (decide (LI ≥ (0 : Int)))) hS (xv rfl) rfl fun LH a w hz hS => ?_
 have hM := qB hz hM; clear hz
 refine qz <| wp_ret ?_
 exact zm (rs := [4]) hS rfl rfl (hret LH _ (qU hM) (hS.st.pick [] (by kernel_rfl)))
def ql (p : qm) (x : qb) (vs : List Value) : Prop :=
  ∃ (A0 : Option Addr) (c0 : Nat), vs = [.int .i64 x.often_, .slice A0 x.symbols_.length c0] ∧ Pl p (ci .i64) A0 x.symbols_ ∧ x.symbols_.length ≤ c0
theorem ql.mono {p p' : qm} (hs : ∀ q ∈ p, q ∈ p') {x : qb} {vs : List Value} (h : ql p x vs) : ql p' x vs := by
  obtain ⟨A0, c0, h0, h1, h2⟩ := h
  exact ⟨A0, c0, h0, h1.mono hs, h2⟩
theorem uD {H : xU} {F : List qm} {w : World} {R : Ending → World → Prop} {kr : Bool → Prop} {kp : Value → Prop} (hG : Gl H) (K : Nat) (LB : Int)
    (hS : St w H [] F) (hm : (y6.m K LB).wp kr kp)
    (hret : ∀ (LC : Bool) (w : World), kr LC → St w H [] F → R (.returned (.bool LC)) w) :
    Calls Tryd.prog 82 ⟨[.int .i64 LB]⟩ w R := by
 refine enter Tryd.func82 rfl Tryd.ntmps82 rfl hS fun a w hS => ?_
 have hM := hm; clear hm
 rw [y6.m] at hM
 refine qk <| sA hS rfl fun hS => qz <| qk <| sM hS rfl fun hS => sM hS rfl fun hS => sB hS rfl fun hS => zH (v := Value.bool) (x0 := (LB != LB)) hS (xv rfl) rfl fun LD a w hz hS => ?_
 have hM := qB hz hM; clear hz
 refine qz <| wp_ret ?_
 exact zm (rs := [2]) hS rfl rfl (hret LD _ (qU hM) (hS.st.pick [] (by kernel_rfl)))
theorem vG {H : xU} {F : List qm} {w : World} {R : Ending → World → Prop} {kr : Int → Prop} {kp : Value → Prop} (hG : Gl H) (K : Nat) (LB : Int) (LC : Int)
    (hS : St w H [] F) (hm : (yF.m K LB LC).wp kr kp)
    (hret : ∀ (LD : Int) (w : World), kr LD → St w H [] F → R (.returned (.int .i64 LD)) w) :
    Calls Tryd.prog 58 ⟨[.int .i64 LB, .int .i64 LC]⟩ w R := by
 refine enter Tryd.func58 rfl Tryd.ntmps58 rfl hS fun a w hS => ?_
 have hM := hm; clear hm
 rw [yF.m] at hM
 refine qk <| sA hS rfl fun hS => qz <| qk <| sM hS rfl fun hS => qK hS rfl Tryd.call82 (uD hG K LB (hS.st.part 0 [] (by kernel_rfl)) (qx hM) (fun LJ w hM  hst => qJ hS.ev hst.appF rfl fun hS => ?_))
 replace hS : Ss _ _ _ H [] F _ _ := hS
 refine sA hS rfl fun hS => qz <| qk <| sM hS rfl fun hS => qK hS rfl Tryd.call82 (uD hG K LC (hS.st.part 0 [] (by kernel_rfl)) (qx hM) (fun LK w hM  hst => qJ hS.ev hst.appF rfl fun hS => ?_))
 replace hS : Ss _ _ _ H [] F _ _ := hS
 refine sA hS rfl fun hS => qz <| wp_seq <| qk <| sM hS rfl fun hS => qz <| qy hS rfl hM (fun LE hM => ?_) (fun LE hM => ?_)
 ·refine wp_seq ?_
  refine qk <| sM hS rfl fun hS => qz <| qy hS rfl hM (fun LF hM => ?_) (fun LF hM => ?_)
  ·refine wp_seq ?_
   refine zI <| sA hS rfl fun hS => qz <| wp_ret <| qA (qA ?_)
   exact zm (rs := [4]) hS rfl rfl (hret (0 : Int) _ (qU hM) (hS.st.pick [] (by kernel_rfl)))
  ·refine wp_skip ?_
   refine qc <| qk <| sA hS rfl fun hS => qz <| wp_ret <| qA ?_
   exact zm (rs := [4]) hS rfl rfl (hret (-1 : Int) _ (qU hM) (hS.st.pick [] (by kernel_rfl)))
 ·refine wp_skip ?_
  refine qc <| wp_seq <| qk <| sM hS rfl fun hS => qz <| qy hS rfl hM (fun LG hM => ?_) (fun LG hM => ?_)
  ·refine wp_seq ?_
   refine zI <| sA hS rfl fun hS => qz <| wp_ret <| qA ?_
   exact zm (rs := [4]) hS rfl rfl (hret (1 : Int) _ (qU hM) (hS.st.pick [] (by kernel_rfl)))
  ·refine wp_skip ?_
   refine qc <| wp_seq <| qk <| sM hS rfl fun hS => sM hS rfl fun hS => sB hS rfl fun hS => qz <| qy hS rfl hM (fun LH hM => ?_) (fun LH hM => ?_)
   ·refine wp_seq ?_
    refine zI <| sA hS rfl fun hS => qz <| wp_ret <| qA ?_
    exact zm (rs := [4]) hS rfl rfl (hret (-1 : Int) _ (qU hM) (hS.st.pick [] (by kernel_rfl)))
   ·refine wp_skip ?_
    refine qc <| wp_seq <| qk <| sM hS rfl fun hS => sM hS rfl fun hS => sB hS rfl fun hS => qz <| qy hS rfl hM (fun LI hM => ?_) (fun LI hM => ?_)
    ·refine wp_seq ?_
     refine zI <| sA hS rfl fun hS => qz <| wp_ret <| qA ?_
     exact zm (rs := [4]) hS rfl rfl (hret (1 : Int) _ (qU hM) (hS.st.pick [] (by kernel_rfl)))
    ·refine wp_skip ?_
     refine qc <| qk <| sA hS rfl fun hS => qz <| wp_ret ?_
     exact zm (rs := [4]) hS rfl rfl (hret (0 : Int) _ (qU hM) (hS.st.pick [] (by kernel_rfl)))
theorem ZE {H : xU} {F : List qm} {w : World} {R : Ending → World → Prop} {kr : Int → Prop} {kp : Value → Prop} (hG : Gl H) (K : Nat) (LB : qb) (LC : qb) (LD : Option Addr) (LF : Nat) (LE : Option Addr) (LG : Nat) (LP : jn H [] F (ci .i64) LD LB.symbols_) (LN : LB.symbols_.length ≤ LF) (LQ : jn H [] F (ci .i64) LE LC.symbols_) (LO : LC.symbols_.length ≤ LG)
    (hS : St w H [] F) (hm : (xN.m K LB LC).wp kr kp)
    (hret : ∀ (LH : Int) (w : World), kr LH → St w H [] F → R (.returned (.int .i64 LH)) w) :
    Calls Tryd.prog 57 ⟨[.agg ⟨[.int .i64 LB.often_, .slice LD LB.symbols_.length LF]⟩, .agg ⟨[.int .i64 LC.often_, .slice LE LC.symbols_.length LG]⟩]⟩ w R := by
 refine enter Tryd.func57 rfl Tryd.ntmps57 rfl hS fun a w hS => ?_
 have hM := hm; clear hm
 rw [xN.m] at hM
 refine qk <| bx ([.int .i64 LB.often_, .slice LD LB.symbols_.length LF]) hS rfl rfl rfl fun w LR LK LI hS => bx ([.int .i64 LC.often_, .slice LE LC.symbols_.length LG]) hS rfl rfl rfl fun w LS LL LJ hS => sA hS rfl fun hS => qz <| qk <| sO hS (xr rfl Tryd.runUnderlying112 rfl Tryd.sizeOf3 rfl) rfl fun hS => sO hS (xW 1 rfl LI rfl rfl Tryd.isAgg3) rfl fun hS => sO hS (xr rfl Tryd.runUnderlying112 rfl Tryd.sizeOf3 rfl) rfl fun hS => sO hS (xW 0 rfl LJ rfl rfl Tryd.isAgg3) rfl fun hS => qK hS rfl Tryd.call58 (vG hG K LB.often_ LC.often_ (hS.st.part 0 [0, 1] (by kernel_rfl)) (qx hM) (fun LM w hM  hst => qJ hS.ev hst.appF rfl fun hS => ?_))
 replace hS : Ss _ _ _ H [LL, LK] F _ _ := hS
 refine sA hS rfl fun hS => qz <| wp_ret ?_
 exact zm (rs := [4]) hS rfl rfl (hret LM _ (qU hM) (hS.st.pick [] (by kernel_rfl)))
theorem Z4 {H : xU} {F : List qm} {w : World} {R : Ending → World → Prop} {kr : Int → Prop} {kp : Value → Prop} (hG : Gl H) (K : Nat) (LB : qb) (LC : qb) (LD : Option Addr) (LF : Nat) (LE : Option Addr) (LG : Nat) (LP : jn H [] F (ci .i64) LD LB.symbols_) (LN : LB.symbols_.length ≤ LF) (LQ : jn H [] F (ci .i64) LE LC.symbols_) (LO : LC.symbols_.length ≤ LG)
    (hS : St w H [] F) (hm : (xN.m K LB LC).wp kr kp)
    (hret : ∀ (LH : Int) (w : World), kr LH → St w H [] F → R (.returned (.int .i64 LH)) w) :
    Calls Tryd.prog 84 ⟨[.agg ⟨[.int .i64 LB.often_, .slice LD LB.symbols_.length LF]⟩, .agg ⟨[.int .i64 LC.often_, .slice LE LC.symbols_.length LG]⟩]⟩ w R := by
 refine enter Tryd.func84 rfl Tryd.ntmps84 rfl hS fun a w hS => ?_
 have hM := hm; clear hm
 rw [xN.m] at hM
 refine qk <| bx ([.int .i64 LB.often_, .slice LD LB.symbols_.length LF]) hS rfl rfl rfl fun w LR LK LI hS => bx ([.int .i64 LC.often_, .slice LE LC.symbols_.length LG]) hS rfl rfl rfl fun w LS LL LJ hS => sA hS rfl fun hS => qz <| qk <| sO hS (xr rfl Tryd.runUnderlying112 rfl Tryd.sizeOf3 rfl) rfl fun hS => sO hS (xW 1 rfl LI rfl rfl Tryd.isAgg3) rfl fun hS => sO hS (xr rfl Tryd.runUnderlying112 rfl Tryd.sizeOf3 rfl) rfl fun hS => sO hS (xW 0 rfl LJ rfl rfl Tryd.isAgg3) rfl fun hS => qK hS rfl Tryd.call58 (vG hG K LB.often_ LC.often_ (hS.st.part 0 [0, 1] (by kernel_rfl)) (qx hM) (fun LM w hM  hst => qJ hS.ev hst.appF rfl fun hS => ?_))
 replace hS : Ss _ _ _ H [LL, LK] F _ _ := hS
 refine sA hS rfl fun hS => qz <| wp_ret ?_
 exact zm (rs := [4]) hS rfl rfl (hret LM _ (qU hM) (hS.st.pick [] (by kernel_rfl)))
theorem Z8 (cq : Nat) (hcq : cq = 57 ∨ cq = 84) {H : xU} {F : List qm} {w : World} {R : Ending → World → Prop} {kr : Int → Prop} {kp : Value → Prop} (hG : Gl H) (K : Nat) (LB : qb) (LC : qb) (LD : Option Addr) (LF : Nat) (LE : Option Addr) (LG : Nat) (LJ : jn H [] F (ci .i64) LD LB.symbols_) (LH : LB.symbols_.length ≤ LF) (LK : jn H [] F (ci .i64) LE LC.symbols_) (LI : LC.symbols_.length ≤ LG)
    (hS : St w H [] F) (hm : (xN.m K LB LC).wp kr kp)
    (hret : ∀ (LL : Int) (w : World), kr LL → St w H [] F → R (.returned (.int .i64 LL)) w) :
    Calls Tryd.prog cq ⟨[.agg ⟨[.int .i64 LB.often_, .slice LD LB.symbols_.length LF]⟩, .agg ⟨[.int .i64 LC.often_, .slice LE LC.symbols_.length LG]⟩]⟩ w R := by
 rcases hcq with rfl | rfl
 · exact ZE hG K LB LC LD LF LE LG LJ LH LK LI hS hm hret
 · exact Z4 hG K LB LC LD LF LE LG LJ LH LK LI hS hm hret
theorem Q7 {cq : Nat} (hcq : cq = 57 ∨ cq = 84) (args : Array Value) (w : World) : (callFunc cq args).run Tryd.prog w = .ok (.enter cq args) w := by
 rcases hcq with rfl | rfl
 · exact Tryd.call57 args w
 · exact Tryd.call84 args w
theorem xM (cq : Nat) (hcq : cq = 57 ∨ cq = 84) {H : xU} {F : List qm} {w : World} {R : Ending → World → Prop} {kr : (List qb) → Prop} {kp : Value → Prop} (hG : Gl H) (K : Nat) (LT : List qb) (LG : Int) (LI : Int) (LK : qm) (LD : Option Addr) (LF : Nat) (LM : List (z2 2)) (Md : qm) (MG : zN (ql LK) LT LM) (Mu : xh 112 (z2.v (sz := 2)) 2 LD LM LF Md)
    (hS : St w H [LK, Md] F) (hm : (qd.m K LT LG LI).wp kr kp)
    (hret : ∀ (L8 : List (z2 2)) (LX : (List qb)) (Mr : qm) (w : World), kr LX → (xh 112 (z2.v (sz := 2)) 2 LD L8 LF Mr) → (zN (ql LK) LX L8) → (L8.length = LM.length) → St w H [LK, Mr] F → R (.returned (.tuple ⟨[]⟩)) w) :
    Calls Tryd.prog 99 ⟨[.slice LD LM.length LF, .int .i64 LG, .int .i64 LI, vC cq [] []]⟩ w R := by
 refine enter Tryd.func99 rfl Tryd.ntmps99 rfl hS fun a w hS => ?_
 have hM := hm; clear hm
 rw [qd.m] at hM
 have MU : ∀ q ∈ LK, q ∈ LK := fun _ h => h
 have ML : LM.length = LM.length := rfl
 refine qk <| sM hS rfl fun hS => sB hS rfl fun hS => zH (v := Value.int .i64) (x0 := (qi (LG + (1 : Int)))) hS (xv rfl) rfl fun MR a w hz hS => ?_
 have hM := qB hz hM; clear hz
 refine qz <| xJ <| zv (fun LZ a w => ∃ (LO : List (z2 2)) (LN : (List qb)) (LY : qm) (LL : Int), Ss 53 [] [(0, .slice LD LO.length LF), (1, .int .i64 LG), (2, .int .i64 LI), (3, vC cq [] []), (8, .int .i64 LL)] H [LK, LY] F a w ∧ (xh 112 (z2.v (sz := 2)) 2 LD LO LF LY) ∧ (zN (ql LK) LN LO) ∧ (LO.length = LM.length) ∧ (qd.l1 K LG LI LZ LN LL).wp kr kp) K ?_ ?_ ?_
 ·exact ⟨LM, LT, Md, MR, hS.to [0, 1] (by kernel_rfl) ⟨rfl, rfl, rfl, rfl, rfl, trivial⟩, Mu, MG, ML, hM⟩
 ·intro a w hI; obtain ⟨_, _, _, _, _, _, _, _, hM⟩ := hI; exact zr hM
 ·intro LZ a w hI MX Mt
  obtain ⟨LO, LN, LY, LL, hS, Mf, Mi, Mk, hM⟩ := hI
  rw [qd.l1] at hM
  refine wp_seq <| qk <| sM hS rfl fun hS => sM hS rfl fun hS => sB hS rfl fun hS => qz <| qy hS rfl hM (fun Mw hM => ?_) (fun Mw hM => ?_)
  ·refine wp_skip ?_
   refine qc <| wp_seq <| xJ <| qk <| sM hS rfl fun hS => sA hS rfl fun hS => qz <| xJ <| zv (fun Mn a w => ∃ (LE : List (z2 2)) (LB : (List qb)) (LV : qm) (LC : Int), Ss 53 [] [(0, .slice LD LE.length LF), (1, .int .i64 LG), (2, .int .i64 LI), (3, vC cq [] []), (8, .int .i64 LL), (9, .int .i64 LC)] H [LK, LV] F a w ∧ (xh 112 (z2.v (sz := 2)) 2 LD LE LF LV) ∧ (zN (ql LK) LB LE) ∧ (LE.length = LM.length) ∧ (qd.l2 K (qd.l1 K LG LI LZ) LG LL Mn LB LC).wp kr kp) K ?_ ?_ ?_
   ·exact ⟨LO, LN, LY, LL, hS.to [0, 1] (by kernel_rfl) ⟨rfl, rfl, rfl, rfl, rfl, rfl, trivial⟩, Mf, Mi, Mk, hM⟩
   ·intro a w hI; obtain ⟨_, _, _, _, _, _, _, _, hM⟩ := hI; exact zr hM
   ·intro Mn a w hI MW Ms
    obtain ⟨LE, LB, LV, LC, hS, LJ, LH, Ml, hM⟩ := hI
    rw [qd.l2] at hM
    refine wp_seq <| zx (fun a w => ∃ (Mq : Bool), Ss 53 [] [(0, .slice LD LE.length LF), (1, .int .i64 LG), (2, .int .i64 LI), (3, vC cq [] []), (8, .int .i64 LL), (9, .int .i64 LC), (34, .bool Mq)] H [LK, LV] F a w ∧ (qd.j3 K (qd.l1 K LG LI LZ) (qd.l2 K (qd.l1 K LG LI LZ) LG LL Mn) LL LB LC Mq).wp kr kp) (fun MV Me => ?_) ?_
    ·refine UM (b := (decide (LC > LG))) hM (fun L1 hM => ?_) (fun L1 hM => ?_)
     ·obtain ⟨L3, hM⟩ := qE hM
      obtain ⟨L9, Mb, MH, MC, My⟩ := LH.get L3
      obtain ⟨L4, hM⟩ := qE hM
      obtain ⟨Ma, Mc, MI, MD, Mz⟩ := LH.get L4
      refine zh (vals := [some (.int .i64 LC), some (.int .i64 LG), some (.bool true), some (.bool true), some (vC cq [] []), some (.slice LD LE.length LF), some (.int .i64 LC), some (xz LD (Int.toNat LC * 2)), some (.agg ⟨[.int .i64 ((rd LB LC).often_), .slice L9 ((rd LB LC).symbols_).length Mb]⟩), some (.slice LD LE.length LF), some (.int .i64 LC), some (.int .i64 (qi (LC - (1 : Int)))), some (xz LD (Int.toNat (qi (LC - (1 : Int))) * 2)), some (.agg ⟨[.int .i64 ((rd LB (qi (LC - (1 : Int)))).often_), .slice Ma ((rd LB (qi (LC - (1 : Int)))).symbols_).length Mc]⟩), none, none, none]) hS xH rfl ?_
      intro l w ho hcl hA hst
      refine jQ hA hst ho hcl xQ xI 14 [0, 1, 2, 3, 4, 5, 6, 7, 8, 9, 10, 11, 12, 13] rfl rfl rfl rfl rfl (by exact ⟨nM rfl, nM rfl, nQ rfl (by exact qY (yZ rfl rfl rfl) (congrArg Value.bool L1)), nM rfl, nW rfl rfl rfl rfl rfl rfl rfl rfl (by exact qY (mv rfl) rfl), nW rfl rfl rfl rfl rfl rfl rfl rfl (by exact qY (mv rfl) rfl), nW rfl rfl rfl rfl rfl rfl rfl rfl (by exact qY (mv rfl) rfl), nW rfl rfl rfl rfl rfl rfl rfl rfl (by exact qY (x6 rfl rfl Tryd.runUnderlying110 Tryd.sizeOf112 (LJ.rd (i := 1) rfl) z2.len rfl (LH.inb L3)) rfl), nW rfl rfl rfl rfl rfl rfl rfl rfl (by exact qY (qY (vS rfl (LJ.rd (i := 1) rfl) z2.len (LH.inb L3) Tryd.isAgg112 Tryd.sizeOf112 rfl) (congrArg (fun l => Value.agg ⟨l⟩) MH)) rfl), nW rfl rfl rfl rfl rfl rfl rfl rfl (by exact qY (mv rfl) rfl), nW rfl rfl rfl rfl rfl rfl rfl rfl (by exact qY (mv rfl) rfl), nW rfl rfl rfl rfl rfl rfl rfl rfl (by exact qY (yZ rfl rfl rfl) rfl), nW rfl rfl rfl rfl rfl rfl rfl rfl (by exact qY (x6 rfl rfl Tryd.runUnderlying110 Tryd.sizeOf112 (LJ.rd (i := 1) rfl) z2.len rfl (LH.inb L4)) rfl), nW rfl rfl rfl rfl rfl rfl rfl rfl (by exact qY (qY (vS rfl (LJ.rd (i := 1) rfl) z2.len (LH.inb L4) Tryd.isAgg112 Tryd.sizeOf112 rfl) (congrArg (fun l => Value.agg ⟨l⟩) MI)) rfl), trivial⟩) fun D l a w ho hcl hav hpre hm hE hk hA hst => ?_
      have hS := (Ss.mk hE hst).env2 (e' := [(21, .bool true), (22, vC cq [] []), (26, .agg ⟨[.int .i64 ((rd LB LC).often_), .slice L9 ((rd LB LC).symbols_).length Mb]⟩), (31, .agg ⟨[.int .i64 ((rd LB (qi (LC - (1 : Int)))).often_), .slice Ma ((rd LB (qi (LC - (1 : Int)))).symbols_).length Mc]⟩)]) ⟨rfl, rfl, rfl, rfl, trivial⟩
      refine zi rfl <| Xk hS rfl rfl rfl rfl <| Zk hS rfl rfl (Q7 hcq) (Z8 cq hcq hG K (qb.mk ((rd LB LC).often_) ((rd LB LC).symbols_)) (qb.mk ((rd LB (qi (LC - (1 : Int)))).often_) ((rd LB (qi (LC - (1 : Int)))).symbols_)) L9 Mb Ma Mc (MC.rdF (i := 0) rfl) My (MD.rdF (i := 0) rfl) Mz (hS.st.part 0 [0, 1] (by kernel_rfl)) (qx hM) (fun L0 w hM  hst => qJ hS.ev hst.appF rfl fun hS => ?_))
      replace hS : Ss _ _ _ H [LK, LV] F _ _ := hS
      refine qz ?_
      replace hst := hS.st
      obtain ⟨hcl, hmust, hav2, hA⟩ := dn (vals' := [some (.int .i64 LC), some (.int .i64 LG), some (.bool true), some (.bool true), some (vC cq [] []), some (.slice LD LE.length LF), some (.int .i64 LC), some (xz LD (Int.toNat LC * 2)), some (.agg ⟨[.int .i64 ((rd LB LC).often_), .slice L9 ((rd LB LC).symbols_).length Mb]⟩), some (.slice LD LE.length LF), some (.int .i64 LC), some (.int .i64 (qi (LC - (1 : Int)))), some (xz LD (Int.toNat (qi (LC - (1 : Int))) * 2)), some (.agg ⟨[.int .i64 ((rd LB (qi (LC - (1 : Int)))).often_), .slice Ma ((rd LB (qi (LC - (1 : Int)))).symbols_).length Mc]⟩), some (.int .i64 L0), some (.bool (decide (L0 < (0 : Int)))), some (.bool (decide (L0 < (0 : Int))))]) 14 [(3, 14), (4, 14), (8, 14), (13, 14), (2, 3), (7, 8), (12, 13), (0, 2), (1, 2), (5, 7), (6, 7), (9, 12), (11, 12), (10, 11)] hA hcl hav hm hpre hk rfl rfl rfl rfl rfl rfl rfl
      clear hm hav
      refine yo hA hst ho hcl hmust [15, 16] rfl rfl rfl (by exact ⟨nW rfl rfl rfl rfl rfl rfl rfl rfl (by exact qY (yZ rfl rfl rfl) rfl), nQ rfl (by exact qY (pk rfl rfl rfl) rfl), trivial⟩) fun a w hS => ?_
      replace hS := hS.env2 (e' := [(0, .slice LD LE.length LF), (1, .int .i64 LG), (2, .int .i64 LI), (3, vC cq [] []), (8, .int .i64 LL), (9, .int .i64 LC), (34, .bool (decide (L0 < (0 : Int))))]) ⟨rfl, rfl, rfl, rfl, rfl, rfl, rfl, trivial⟩
      refine qc ?_
      exact Me _ _ ⟨(decide (L0 < (0 : Int))), hS.to [0, 1] (by kernel_rfl) ⟨rfl, rfl, rfl, rfl, rfl, rfl, rfl, trivial⟩, hM⟩
     ·refine zh (vals := [some (.int .i64 LC), some (.int .i64 LG), some (.bool false), some (.bool false), some (undef), some (undef), some (undef), some (undef), some (undef), some (undef), some (undef), some (undef), some (undef), some (undef), some (undef), some (undef), some (.bool false)]) hS xH rfl ?_
      intro l w ho hcl hA hst
      refine yo hA hst ho hcl xI [0, 1, 2, 3, 4, 5, 6, 7, 8, 9, 10, 11, 12, 13, 14, 15, 16] rfl rfl rfl (by exact ⟨nM rfl, nM rfl, nQ rfl (by exact qY (yZ rfl rfl rfl) (congrArg Value.bool L1)), nM rfl, nS rfl rfl rfl rfl rfl rfl rfl rfl rfl, nS rfl rfl rfl rfl rfl rfl rfl rfl rfl, nS rfl rfl rfl rfl rfl rfl rfl rfl rfl, nS rfl rfl rfl rfl rfl rfl rfl rfl rfl, nS rfl rfl rfl rfl rfl rfl rfl rfl rfl, nS rfl rfl rfl rfl rfl rfl rfl rfl rfl, nS rfl rfl rfl rfl rfl rfl rfl rfl rfl, nS rfl rfl rfl rfl rfl rfl rfl rfl rfl, nS rfl rfl rfl rfl rfl rfl rfl rfl rfl, nS rfl rfl rfl rfl rfl rfl rfl rfl rfl, nS rfl rfl rfl rfl rfl rfl rfl rfl rfl, nS rfl rfl rfl rfl rfl rfl rfl rfl rfl, nQ rfl (by exact qY (pk rfl rfl rfl) rfl), trivial⟩) fun a w hS => ?_
      replace hS := hS.env2 (e' := [(0, .slice LD LE.length LF), (1, .int .i64 LG), (2, .int .i64 LI), (3, vC cq [] []), (8, .int .i64 LL), (9, .int .i64 LC), (34, .bool false)]) ⟨rfl, rfl, rfl, rfl, rfl, rfl, rfl, trivial⟩
      refine qc ?_
      exact Me _ _ ⟨false, hS.to [0, 1] (by kernel_rfl) ⟨rfl, rfl, rfl, rfl, rfl, rfl, rfl, trivial⟩, hM⟩
    ·intro a w hI
     obtain ⟨Mq, hS, hM⟩ := hI
     rw [qd.j3] at hM
     refine qy hS rfl hM (fun Mx hM => ?_) (fun Mx hM => ?_)
     ·refine wp_skip ?_
      refine qc <| wp_seq <| xJ ?_
      obtain ⟨L5, hM⟩ := qE hM
      obtain ⟨LP, LR, MJ, ME, MA⟩ := LH.get L5
      obtain ⟨LU, hM⟩ := qE hM
      obtain ⟨LQ, LS, MK, MF, MB⟩ := LH.get LU
      refine zh (vals := [some (.slice LD LE.length LF), some (.int .i64 LC), some (.slice LD LE.length LF), some (.int .i64 LC), some (.int .i64 (qi (LC - (1 : Int)))), some (.slice LD LE.length LF), some (.int .i64 LC), some (.int .i64 (qi (LC - (1 : Int)))), some (xz LD (Int.toNat (qi (LC - (1 : Int))) * 2)), some (.agg ⟨[.int .i64 ((rd LB (qi (LC - (1 : Int)))).often_), .slice LP ((rd LB (qi (LC - (1 : Int)))).symbols_).length LR]⟩), some (.slice LD LE.length LF), some (.int .i64 LC), some (xz LD (Int.toNat LC * 2)), some (.agg ⟨[.int .i64 ((rd LB LC).often_), .slice LQ ((rd LB LC).symbols_).length LS]⟩), some (xz LD (Int.toNat LC * 2)), none, none, none]) hS xH rfl ?_
      intro l w ho hcl hA hst
      refine jQ hA hst ho hcl xQ xI 15 [0, 1, 2, 3, 4, 5, 6, 7, 8, 9, 10, 11, 12, 13, 14] rfl rfl rfl rfl rfl (by exact ⟨nM rfl, nM rfl, nM rfl, nM rfl, nB rfl, nM rfl, nM rfl, nB rfl, nQ rfl (by exact qY (x6 rfl rfl Tryd.runUnderlying110 Tryd.sizeOf112 (LJ.rd (i := 1) rfl) z2.len rfl (LH.inb L5)) rfl), nQ rfl (by exact qY (qY (vS rfl (LJ.rd (i := 1) rfl) z2.len (LH.inb L5) Tryd.isAgg112 Tryd.sizeOf112 rfl) (congrArg (fun l => Value.agg ⟨l⟩) MJ)) rfl), nM rfl, nM rfl, nQ rfl (by exact qY (x6 rfl rfl Tryd.runUnderlying110 Tryd.sizeOf112 (LJ.rd (i := 1) rfl) z2.len rfl (LH.inb LU)) rfl), nQ rfl (by exact qY (qY (vS rfl (LJ.rd (i := 1) rfl) z2.len (LH.inb LU) Tryd.isAgg112 Tryd.sizeOf112 rfl) (congrArg (fun l => Value.agg ⟨l⟩) MK)) rfl), nQ rfl (by exact qY (x6 rfl rfl Tryd.runUnderlying110 Tryd.sizeOf112 (LJ.rd (i := 1) rfl) z2.len rfl (LH.inb LU)) rfl), trivial⟩) fun D l a w ho hcl hav hpre hm hE hk hA hst => ?_
      have hS := (Ss.mk hE hst).env2 (e' := [(46, .agg ⟨[.int .i64 ((rd LB (qi (LC - (1 : Int)))).often_), .slice LP ((rd LB (qi (LC - (1 : Int)))).symbols_).length LR]⟩), (51, xz LD (Int.toNat LC * 2))]) ⟨rfl, rfl, trivial⟩
      refine zi rfl <| Ve (i := LC) (sz := 2) 1 (⟨[.int .i64 ((rd LB (qi (LC - (1 : Int)))).often_), .slice LP ((rd LB (qi (LC - (1 : Int)))).symbols_).length LR], by simp, by simp [Value.oneCell']⟩ : z2 2) hS rfl rfl LJ rfl Tryd.sizeOf112 rfl (LH.inb LU) fun Mp w MY hz Mg hS => ?_
      obtain ⟨MO, hzm⟩ := ur (LB.set (Int.toNat LC) (qb.mk ((rd LB (qi (LC - (1 : Int)))).often_) ((rd LB (qi (LC - (1 : Int)))).symbols_)))
      replace hM := qB hzm hM
      have LW := zN.set (x := (qb.mk ((rd LB (qi (LC - (1 : Int)))).often_) ((rd LB (qi (LC - (1 : Int)))).symbols_))) (r := (⟨[.int .i64 ((rd LB (qi (LC - (1 : Int)))).often_), .slice LP ((rd LB (qi (LC - (1 : Int)))).symbols_).length LR], by simp, by simp [Value.oneCell']⟩ : z2 2)) (Int.toNat LC) LH (show ql LK _ _ from ⟨LP, LR, rfl, ME, MA⟩)
      have L6 : Mp.length = LE.length := by rw [hz]; exact List.length_set ..
      rw [← hz, ← hzm] at LW; clear hz hzm
      have MM := Eq.trans L6 Ml
      refine qz ?_
      replace hst := hS.st
      obtain ⟨Mh, hM⟩ := qE hM
      obtain ⟨hcl, hmust, hav2, hA⟩ := Jy (vals' := [some (.slice LD LE.length LF), some (.int .i64 LC), some (.slice LD LE.length LF), some (.int .i64 LC), some (.int .i64 (qi (LC - (1 : Int)))), some (.slice LD LE.length LF), some (.int .i64 LC), some (.int .i64 (qi (LC - (1 : Int)))), some (xz LD (Int.toNat (qi (LC - (1 : Int))) * 2)), some (.agg ⟨[.int .i64 ((rd LB (qi (LC - (1 : Int)))).often_), .slice LP ((rd LB (qi (LC - (1 : Int)))).symbols_).length LR]⟩), some (.slice LD LE.length LF), some (.int .i64 LC), some (xz LD (Int.toNat LC * 2)), some (.agg ⟨[.int .i64 ((rd LB LC).often_), .slice LQ ((rd LB LC).symbols_).length LS]⟩), some (xz LD (Int.toNat LC * 2)), some undef, some (xz LD (Int.toNat (qi (LC - (1 : Int))) * 2)), none]) 15 [(0, 15), (1, 15), (5, 15), (6, 15), (7, 15), (8, 15), (9, 15), (13, 15), (14, 15), (12, 13), (10, 12), (11, 12)] hA hcl hav hm hpre rfl rfl rfl rfl rfl
      clear hm hav
      refine jQ hA hst ho hcl hav2 hmust 17 [2, 3, 4, 16] rfl rfl rfl rfl rfl (by exact ⟨nM rfl, nM rfl, nB rfl, nQ rfl (by exact qY (x6 (KN L6 rfl) rfl Tryd.runUnderlying110 Tryd.sizeOf112 (Mg.rd (i := 1) rfl) z2.len rfl (LW.inb Mh)) rfl), trivial⟩) fun D l a w ho hcl hav hpre hm hE hk hA hst => ?_
      have hS := (Ss.mk hE hst).env2 (e' := [(50, .agg ⟨[.int .i64 ((rd LB LC).often_), .slice LQ ((rd LB LC).symbols_).length LS]⟩), (52, xz LD (Int.toNat (qi (LC - (1 : Int))) * 2))]) ⟨rfl, rfl, trivial⟩
      refine zi rfl <| Ve (i := (qi (LC - (1 : Int)))) (sz := 2) 1 (⟨[.int .i64 ((rd LB LC).often_), .slice LQ ((rd LB LC).symbols_).length LS], by simp, by simp [Value.oneCell']⟩ : z2 2) hS rfl rfl Mg rfl Tryd.sizeOf112 rfl (LW.inb Mh) fun L7 w MQ hz Mv hS => ?_
      obtain ⟨MP, hzm⟩ := ur (MO.set (Int.toNat (qi (LC - (1 : Int)))) (qb.mk ((rd LB LC).often_) ((rd LB LC).symbols_)))
      replace hM := qB hzm hM
      have Mj := zN.set (x := (qb.mk ((rd LB LC).often_) ((rd LB LC).symbols_))) (r := (⟨[.int .i64 ((rd LB LC).often_), .slice LQ ((rd LB LC).symbols_).length LS], by simp, by simp [Value.oneCell']⟩ : z2 2)) (Int.toNat (qi (LC - (1 : Int)))) LW (show ql LK _ _ from ⟨LQ, LS, rfl, MF, MB⟩)
      have Mm : L7.length = Mp.length := by rw [hz]; exact List.length_set ..
      rw [← hz, ← hzm] at Mj; clear hz hzm
      have MN := Eq.trans Mm MM
      refine qz ?_
      replace hst := hS.st
      obtain ⟨hcl, hmust, hav2, hA⟩ := Jy (vals' := [some (.slice LD LE.length LF), some (.int .i64 LC), some (.slice LD LE.length LF), some (.int .i64 LC), some (.int .i64 (qi (LC - (1 : Int)))), some (.slice LD LE.length LF), some (.int .i64 LC), some (.int .i64 (qi (LC - (1 : Int)))), some (xz LD (Int.toNat (qi (LC - (1 : Int))) * 2)), some (.agg ⟨[.int .i64 ((rd LB (qi (LC - (1 : Int)))).often_), .slice LP ((rd LB (qi (LC - (1 : Int)))).symbols_).length LR]⟩), some (.slice LD LE.length LF), some (.int .i64 LC), some (xz LD (Int.toNat LC * 2)), some (.agg ⟨[.int .i64 ((rd LB LC).often_), .slice LQ ((rd LB LC).symbols_).length LS]⟩), some (xz LD (Int.toNat LC * 2)), some undef, some (xz LD (Int.toNat (qi (LC - (1 : Int))) * 2)), some undef]) 17 [(0, 17), (1, 17), (2, 17), (3, 17), (4, 17), (5, 17), (6, 17), (7, 17), (8, 17), (9, 17), (10, 17), (11, 17), (12, 17), (13, 17), (14, 17), (15, 17), (16, 17)] hA hcl hav hm hpre rfl rfl rfl rfl rfl
      clear hm hav
      refine yo hA hst ho hcl hmust [] rfl rfl rfl trivial fun a w hS => ?_
      replace hS := hS.env2 (e' := [(0, .slice LD L7.length LF), (1, .int .i64 LG), (2, .int .i64 LI), (3, vC cq [] []), (8, .int .i64 LL), (9, .int .i64 LC)]) ⟨(U1 (u := .slice LD LE.length LF) rfl (by rw [Mm, L6])), rfl, rfl, rfl, rfl, rfl, trivial⟩
      refine zz (qc ?_)
      refine zI <| sM hS rfl fun hS => sB hS rfl fun hS => zH (v := Value.int .i64) (x0 := (qi (LC - (1 : Int)))) hS (xv rfl) rfl fun MT a w hz hS => ?_
      have hM := qB hz hM; clear hz
      refine zd <| qc ?_
      exact Ms _ _ ⟨L7, MP, MQ, MT, hS.to [0, 1] (by kernel_rfl) ⟨rfl, rfl, rfl, rfl, rfl, rfl, trivial⟩, Mv, Mj, MN, hM⟩
     ·refine wp_exit ?_
      refine qC (qC (q9 (zz (qc ?_))))
      refine zI <| sM hS rfl fun hS => sB hS rfl fun hS => zH (v := Value.int .i64) (x0 := (qi (LL + (1 : Int)))) hS (xv rfl) rfl fun MS a w hz hS => ?_
      have hM := qB hz hM; clear hz
      refine zd <| qc ?_
      exact Mt _ _ ⟨LE, LB, LV, MS, hS.to [0, 1] (by kernel_rfl) ⟨rfl, rfl, rfl, rfl, rfl, trivial⟩, LJ, LH, Ml, hM⟩
  ·refine wp_exit ?_
   refine qC (qC (q9 ?_))
   exact vg (rs := []) hS rfl rfl (hret LO LN LY _ (qU hM) Mf Mi Mk (hS.st.pick [0, 1] (by kernel_rfl)))
theorem xm (cq : Nat) (hcq : cq = 57 ∨ cq = 84) {H : xU} {F : List qm} {w : World} {R : Ending → World → Prop} {kr : (List qb) → Prop} {kp : Value → Prop} (hG : Gl H) (K : Nat) (LQ : List qb) (LD : Int) (LE : Int) (LS : Int) (LK : qm) (LF : Option Addr) (LH : Nat) (LJ : List (z2 2)) (L0 : qm) (Mi : zN (ql LK) LQ LJ) (Mb : xh 112 (z2.v (sz := 2)) 2 LF LJ LH L0)
    (hS : St w H [LK, L0] F) (hm : (qI.m K LQ LD LE LS).wp kr kp)
    (hret : ∀ (LY : List (z2 2)) (LU : (List qb)) (L8 : qm) (w : World), kr LU → (xh 112 (z2.v (sz := 2)) 2 LF LY LH L8) → (zN (ql LK) LU LY) → (LY.length = LJ.length) → St w H [LK, L8] F → R (.returned (.tuple ⟨[]⟩)) w) :
    Calls Tryd.prog 109 ⟨[.slice LF LJ.length LH, .int .i64 LD, .int .i64 LE, .int .i64 LS, vC cq [] []]⟩ w R := by
 refine enter Tryd.func109 rfl Tryd.ntmps109 rfl hS fun a w hS => ?_
 have hM := hm; clear hm
 rw [qI.m] at hM
 have Mt : ∀ q ∈ LK, q ∈ LK := fun _ h => h
 have Ml : LJ.length = LJ.length := rfl
 refine qk <| sA hS rfl fun hS => qz <| xJ <| zv (fun L9 a w => ∃ (LG : List (z2 2)) (LC : (List qb)) (LZ : qm) (LB : Int), Ss 38 [] [(0, .slice LF LG.length LH), (1, .int .i64 LD), (2, .int .i64 LE), (3, .int .i64 LS), (10, .int .i64 LB)] H [LK, LZ] F a w ∧ (xh 112 (z2.v (sz := 2)) 2 LF LG LH LZ) ∧ (zN (ql LK) LC LG) ∧ (LG.length = LJ.length) ∧ (qI.l1 K LD LE LS L9 LC LB).wp kr kp) K ?_ ?_ ?_
 ·exact ⟨LJ, LQ, L0, (0 : Int), hS.to [0, 1] (by kernel_rfl) ⟨rfl, rfl, rfl, rfl, rfl, trivial⟩, Mb, Mi, Ml, hM⟩
 ·intro a w hI; obtain ⟨_, _, _, _, _, _, _, _, hM⟩ := hI; exact zr hM
 ·intro L9 a w hI Mu Ma
  obtain ⟨LG, LC, LZ, LB, hS, LL, LI, L5, hM⟩ := hI
  rw [qI.l1] at hM
  refine wp_seq <| qk <| sM hS rfl fun hS => sM hS rfl fun hS => sB hS rfl fun hS => qz <| qy hS rfl hM (fun Md hM => ?_) (fun Md hM => ?_)
  ·refine wp_skip ?_
   refine qc <| wp_seq <| xJ ?_
   obtain ⟨LV, hM⟩ := qE hM
   obtain ⟨LM, LO, Mj, Mg, Me⟩ := LI.get LV
   obtain ⟨LR, hM⟩ := qE hM
   obtain ⟨LN, LP, Mk, Mh, Mf⟩ := LI.get LR
   refine zh (vals := [some (.slice LF LG.length LH), some (.int .i64 LD), some (.int .i64 LB), some (.int .i64 (qi (LD + LB))), some (.slice LF LG.length LH), some (.int .i64 LE), some (.int .i64 LB), some (.int .i64 (qi (LE + LB))), some (.slice LF LG.length LH), some (.int .i64 LE), some (.int .i64 LB), some (.int .i64 (qi (LE + LB))), some (xz LF (Int.toNat (qi (LE + LB)) * 2)), some (.agg ⟨[.int .i64 ((rd LC (qi (LE + LB))).often_), .slice LM ((rd LC (qi (LE + LB))).symbols_).length LO]⟩), some (.slice LF LG.length LH), some (.int .i64 LD), some (.int .i64 LB), some (.int .i64 (qi (LD + LB))), some (xz LF (Int.toNat (qi (LD + LB)) * 2)), some (.agg ⟨[.int .i64 ((rd LC (qi (LD + LB))).often_), .slice LN ((rd LC (qi (LD + LB))).symbols_).length LP]⟩), some (xz LF (Int.toNat (qi (LD + LB)) * 2)), none, none, none]) hS xH rfl ?_
   intro l w ho hcl hA hst
   refine jQ hA hst ho hcl xQ xI 21 [0, 1, 2, 3, 4, 5, 6, 7, 8, 9, 10, 11, 12, 13, 14, 15, 16, 17, 18, 19, 20] rfl rfl rfl rfl rfl (by exact ⟨nM rfl, nM rfl, nM rfl, nB rfl, nM rfl, nM rfl, nM rfl, nB rfl, nM rfl, nM rfl, nM rfl, nB rfl, nQ rfl (by exact qY (x6 rfl rfl Tryd.runUnderlying110 Tryd.sizeOf112 (LL.rd (i := 1) rfl) z2.len rfl (LI.inb LV)) rfl), nQ rfl (by exact qY (qY (vS rfl (LL.rd (i := 1) rfl) z2.len (LI.inb LV) Tryd.isAgg112 Tryd.sizeOf112 rfl) (congrArg (fun l => Value.agg ⟨l⟩) Mj)) rfl), nM rfl, nM rfl, nM rfl, nB rfl, nQ rfl (by exact qY (x6 rfl rfl Tryd.runUnderlying110 Tryd.sizeOf112 (LL.rd (i := 1) rfl) z2.len rfl (LI.inb LR)) rfl), nQ rfl (by exact qY (qY (vS rfl (LL.rd (i := 1) rfl) z2.len (LI.inb LR) Tryd.isAgg112 Tryd.sizeOf112 rfl) (congrArg (fun l => Value.agg ⟨l⟩) Mk)) rfl), nQ rfl (by exact qY (x6 rfl rfl Tryd.runUnderlying110 Tryd.sizeOf112 (LL.rd (i := 1) rfl) z2.len rfl (LI.inb LR)) rfl), trivial⟩) fun D l a w ho hcl hav hpre hm hE hk hA hst => ?_
   have hS := (Ss.mk hE hst).env2 (e' := [(29, .agg ⟨[.int .i64 ((rd LC (qi (LE + LB))).often_), .slice LM ((rd LC (qi (LE + LB))).symbols_).length LO]⟩), (36, xz LF (Int.toNat (qi (LD + LB)) * 2))]) ⟨rfl, rfl, trivial⟩
   refine zi rfl <| Ve (i := (qi (LD + LB))) (sz := 2) 1 (⟨[.int .i64 ((rd LC (qi (LE + LB))).often_), .slice LM ((rd LC (qi (LE + LB))).symbols_).length LO], by simp, by simp [Value.oneCell']⟩ : z2 2) hS rfl rfl LL rfl Tryd.sizeOf112 rfl (LI.inb LR) fun L7 w Mv hz L1 hS => ?_
   obtain ⟨Mp, hzm⟩ := ur (LC.set (Int.toNat (qi (LD + LB))) (qb.mk ((rd LC (qi (LE + LB))).often_) ((rd LC (qi (LE + LB))).symbols_)))
   replace hM := qB hzm hM
   have LT := zN.set (x := (qb.mk ((rd LC (qi (LE + LB))).often_) ((rd LC (qi (LE + LB))).symbols_))) (r := (⟨[.int .i64 ((rd LC (qi (LE + LB))).often_), .slice LM ((rd LC (qi (LE + LB))).symbols_).length LO], by simp, by simp [Value.oneCell']⟩ : z2 2)) (Int.toNat (qi (LD + LB))) LI (show ql LK _ _ from ⟨LM, LO, rfl, Mg, Me⟩)
   have LW : L7.length = LG.length := by rw [hz]; exact List.length_set ..
   rw [← hz, ← hzm] at LT; clear hz hzm
   have Mm := Eq.trans LW L5
   refine qz ?_
   replace hst := hS.st
   obtain ⟨L3, hM⟩ := qE hM
   obtain ⟨hcl, hmust, hav2, hA⟩ := Jy (vals' := [some (.slice LF LG.length LH), some (.int .i64 LD), some (.int .i64 LB), some (.int .i64 (qi (LD + LB))), some (.slice LF LG.length LH), some (.int .i64 LE), some (.int .i64 LB), some (.int .i64 (qi (LE + LB))), some (.slice LF LG.length LH), some (.int .i64 LE), some (.int .i64 LB), some (.int .i64 (qi (LE + LB))), some (xz LF (Int.toNat (qi (LE + LB)) * 2)), some (.agg ⟨[.int .i64 ((rd LC (qi (LE + LB))).often_), .slice LM ((rd LC (qi (LE + LB))).symbols_).length LO]⟩), some (.slice LF LG.length LH), some (.int .i64 LD), some (.int .i64 LB), some (.int .i64 (qi (LD + LB))), some (xz LF (Int.toNat (qi (LD + LB)) * 2)), some (.agg ⟨[.int .i64 ((rd LC (qi (LD + LB))).often_), .slice LN ((rd LC (qi (LD + LB))).symbols_).length LP]⟩), some (xz LF (Int.toNat (qi (LD + LB)) * 2)), some undef, some (xz LF (Int.toNat (qi (LE + LB)) * 2)), none]) 21 [(0, 21), (1, 21), (2, 21), (3, 21), (8, 21), (9, 21), (10, 21), (11, 21), (12, 21), (13, 21), (19, 21), (20, 21), (18, 19), (14, 18), (17, 18), (15, 17), (16, 17)] hA hcl hav hm hpre rfl rfl rfl rfl rfl
   clear hm hav
   refine jQ hA hst ho hcl hav2 hmust 23 [4, 5, 6, 7, 22] rfl rfl rfl rfl rfl (by exact ⟨nM rfl, nM rfl, nM rfl, nB rfl, nQ rfl (by exact qY (x6 (KN LW rfl) rfl Tryd.runUnderlying110 Tryd.sizeOf112 (L1.rd (i := 1) rfl) z2.len rfl (LT.inb L3)) rfl), trivial⟩) fun D l a w ho hcl hav hpre hm hE hk hA hst => ?_
   have hS := (Ss.mk hE hst).env2 (e' := [(35, .agg ⟨[.int .i64 ((rd LC (qi (LD + LB))).often_), .slice LN ((rd LC (qi (LD + LB))).symbols_).length LP]⟩), (37, xz LF (Int.toNat (qi (LE + LB)) * 2))]) ⟨rfl, rfl, trivial⟩
   refine zi rfl <| Ve (i := (qi (LE + LB))) (sz := 2) 1 (⟨[.int .i64 ((rd LC (qi (LD + LB))).often_), .slice LN ((rd LC (qi (LD + LB))).symbols_).length LP], by simp, by simp [Value.oneCell']⟩ : z2 2) hS rfl rfl L1 rfl Tryd.sizeOf112 rfl (LT.inb L3) fun LX w Mr hz Mc hS => ?_
   obtain ⟨Mq, hzm⟩ := ur (Mp.set (Int.toNat (qi (LE + LB))) (qb.mk ((rd LC (qi (LD + LB))).often_) ((rd LC (qi (LD + LB))).symbols_)))
   replace hM := qB hzm hM
   have L4 := zN.set (x := (qb.mk ((rd LC (qi (LD + LB))).often_) ((rd LC (qi (LD + LB))).symbols_))) (r := (⟨[.int .i64 ((rd LC (qi (LD + LB))).often_), .slice LN ((rd LC (qi (LD + LB))).symbols_).length LP], by simp, by simp [Value.oneCell']⟩ : z2 2)) (Int.toNat (qi (LE + LB))) LT (show ql LK _ _ from ⟨LN, LP, rfl, Mh, Mf⟩)
   have L6 : LX.length = L7.length := by rw [hz]; exact List.length_set ..
   rw [← hz, ← hzm] at L4; clear hz hzm
   have Mn := Eq.trans L6 Mm
   refine qz ?_
   replace hst := hS.st
   obtain ⟨hcl, hmust, hav2, hA⟩ := Jy (vals' := [some (.slice LF LG.length LH), some (.int .i64 LD), some (.int .i64 LB), some (.int .i64 (qi (LD + LB))), some (.slice LF LG.length LH), some (.int .i64 LE), some (.int .i64 LB), some (.int .i64 (qi (LE + LB))), some (.slice LF LG.length LH), some (.int .i64 LE), some (.int .i64 LB), some (.int .i64 (qi (LE + LB))), some (xz LF (Int.toNat (qi (LE + LB)) * 2)), some (.agg ⟨[.int .i64 ((rd LC (qi (LE + LB))).often_), .slice LM ((rd LC (qi (LE + LB))).symbols_).length LO]⟩), some (.slice LF LG.length LH), some (.int .i64 LD), some (.int .i64 LB), some (.int .i64 (qi (LD + LB))), some (xz LF (Int.toNat (qi (LD + LB)) * 2)), some (.agg ⟨[.int .i64 ((rd LC (qi (LD + LB))).often_), .slice LN ((rd LC (qi (LD + LB))).symbols_).length LP]⟩), some (xz LF (Int.toNat (qi (LD + LB)) * 2)), some undef, some (xz LF (Int.toNat (qi (LE + LB)) * 2)), some undef]) 23 [(0, 23), (1, 23), (2, 23), (3, 23), (4, 23), (5, 23), (6, 23), (7, 23), (8, 23), (9, 23), (10, 23), (11, 23), (12, 23), (13, 23), (14, 23), (15, 23), (16, 23), (17, 23), (18, 23), (19, 23), (20, 23), (21, 23), (22, 23)] hA hcl hav hm hpre rfl rfl rfl rfl rfl
   clear hm hav
   refine yo hA hst ho hcl hmust [] rfl rfl rfl trivial fun a w hS => ?_
   replace hS := hS.env2 (e' := [(0, .slice LF LX.length LH), (1, .int .i64 LD), (2, .int .i64 LE), (3, .int .i64 LS), (10, .int .i64 LB)]) ⟨(U1 (u := .slice LF LG.length LH) rfl (by rw [L6, LW])), rfl, rfl, rfl, rfl, trivial⟩
   refine zz (qc ?_)
   refine zI <| sM hS rfl fun hS => sB hS rfl fun hS => zH (v := Value.int .i64) (x0 := (qi (LB + (1 : Int)))) hS (xv rfl) rfl fun Ms a w hz hS => ?_
   have hM := qB hz hM; clear hz
   refine zd <| qc ?_
   exact Ma _ _ ⟨LX, Mq, Mr, Ms, hS.to [0, 1] (by kernel_rfl) ⟨rfl, rfl, rfl, rfl, rfl, trivial⟩, Mc, L4, Mn, hM⟩
  ·refine wp_exit ?_
   refine qC (qC (q9 ?_))
   exact vg (rs := []) hS rfl rfl (hret LG LC LZ _ (qU hM) LL LI L5 (hS.st.pick [0, 1] (by kernel_rfl)))
theorem yD (cq : Nat) (hcq : cq = 57 ∨ cq = 84) {H : xU} {F : List qm} {w : World} {R : Ending → World → Prop} {kr : (List qb) → Prop} {kp : Value → Prop} (hG : Gl H) (K : Nat) (LM : List qb) (LQ : Int) (LF : Int) (LR : Int) (LE : qm) (LB : Option Addr) (LC : Nat) (LH : List (z2 2)) (L4 : qm) (Mj : zN (ql LE) LM LH) (Mf : xh 112 (z2.v (sz := 2)) 2 LB LH LC L4)
    (hS : St w H [LE, L4] F) (hm : (qw.m K LM LQ LF LR).wp kr kp)
    (hret : ∀ (LY : List (z2 2)) (LO : (List qb)) (Mc : qm) (w : World), kr LO → (xh 112 (z2.v (sz := 2)) 2 LB LY LC Mc) → (zN (ql LE) LO LY) → (LY.length = LH.length) → St w H [LE, Mc] F → R (.returned (.tuple ⟨[]⟩)) w) :
    Calls Tryd.prog 108 ⟨[.slice LB LH.length LC, .int .i64 LQ, .int .i64 LF, .int .i64 LR, vC cq [] []]⟩ w R := by
 refine enter Tryd.func108 rfl Tryd.ntmps108 rfl hS fun a w hS => ?_
 have hM := hm; clear hm
 rw [qw.m] at hM
 have MB : ∀ q ∈ LE, q ∈ LE := fun _ h => h
 have Ml : LH.length = LH.length := rfl
 refine qk <| sM hS rfl fun hS => sM hS rfl fun hS => sB hS rfl fun hS => zH (v := Value.int .i64) (x0 := (qi (LF - LQ))) hS (xv rfl) rfl fun Mx a w hz hS => ?_
 have hM := qB hz hM; clear hz
 refine qz <| qk <| sM hS rfl fun hS => sM hS rfl fun hS => sB hS rfl fun hS => zH (v := Value.int .i64) (x0 := (qi (LR - LF))) hS (xv rfl) rfl fun Mz a w hz hS => ?_
 have hM := qB hz hM; clear hz
 refine qz <| zx (fun a w => ∃ (LJ : List (z2 2)) (LK : (List qb)) (LZ : qm) (LP : Int), Ss 58 [] [(0, .slice LB LJ.length LC), (2, .int .i64 LF), (4, vC cq [] []), (10, .int .i64 LP)] H [LE, LZ] F a w ∧ (xh 112 (z2.v (sz := 2)) 2 LB LJ LC LZ) ∧ (zN (ql LE) LK LJ) ∧ (LJ.length = LH.length) ∧ (qw.j2 K LF LK LP).wp kr kp) (fun MD Me => ?_) ?_
 ·refine xJ ?_
  refine zv (fun Md a w => ∃ (LD : List (z2 2)) (LG : (List qb)) (LN : qm) (LI : Int) (LL : Int), Ss 58 [] [(0, .slice LB LD.length LC), (2, .int .i64 LF), (4, vC cq [] []), (10, .int .i64 LI), (11, .int .i64 LL)] H [LE, LN] F a w ∧ (xh 112 (z2.v (sz := 2)) 2 LB LD LC LN) ∧ (zN (ql LE) LG LD) ∧ (LD.length = LH.length) ∧ (qw.l1 K LF Md LG LI LL).wp kr kp) K ?_ ?_ ?_
  ·exact ⟨LH, LM, L4, Mx, Mz, hS.to [0, 1] (by kernel_rfl) ⟨rfl, rfl, rfl, rfl, rfl, trivial⟩, Mf, Mj, Ml, hM⟩
  ·intro a w hI; obtain ⟨_, _, _, _, _, _, _, _, _, hM⟩ := hI; exact zr hM
  ·intro Md a w hI MC L8
   obtain ⟨LD, LG, LN, LI, LL, hS, LS, LT, LU, hM⟩ := hI
   rw [qw.l1] at hM
   refine wp_seq <| qk <| sM hS rfl fun hS => sM hS rfl fun hS => sB hS rfl fun hS => qz <| qy hS rfl hM (fun Mh hM => ?_) (fun Mh hM => ?_)
   ·refine wp_skip ?_
    refine qc <| xJ <| qk <| sM hS rfl fun hS => sM hS rfl fun hS => sB hS rfl fun hS => qz <| qy hS rfl hM (fun Mi hM => ?_) (fun Mi hM => ?_)
    ·refine wp_seq ?_
     refine zI <| sM hS rfl fun hS => sM hS rfl fun hS => sM hS rfl fun hS => sB hS rfl fun hS => sM hS rfl fun hS => sM hS rfl fun hS => sM hS rfl fun hS => qK hS rfl Tryd.call109 (xm cq hcq hG K LG (qi (LF - LI)) LF LL LE LB LC LD LN LT LS (hS.st.part 2 [0, 1] (by kernel_rfl)) (qx hM) (fun LV L0 L9 w hM Mr Ms L5 hst => qJ hS.ev hst.appF rfl fun hS => ?_))
     replace hS : Ss _ _ _ H [LE, L9] F _ _ := hS
     have Mm := Eq.trans L5 LU
     replace hS := hS.re 0 (u := .slice LB LD.length LC) (v := .slice LB LV.length LC) rfl (by rw [L5])
     replace hS := hS.re 24 (u := .slice LB LD.length LC) (v := .slice LB LV.length LC) rfl (by rw [L5])
     refine qz <| zI <| sM hS rfl fun hS => sM hS rfl fun hS => sB hS rfl fun hS => zH (v := Value.int .i64) (x0 := (qi (LI - LL))) hS (xv rfl) rfl fun My a w hz hS => ?_
     have hM := qB hz hM; clear hz
     refine zd <| zz (qc ?_)
     exact L8 _ _ ⟨LV, L0, L9, My, LL, hS.to [0, 1] (by kernel_rfl) ⟨rfl, rfl, rfl, rfl, rfl, trivial⟩, Mr, Ms, Mm, hM⟩
    ·refine wp_seq ?_
     refine zI <| sM hS rfl fun hS => sM hS rfl fun hS => sM hS rfl fun hS => sB hS rfl fun hS => sM hS rfl fun hS => sM hS rfl fun hS => sB hS rfl fun hS => sM hS rfl fun hS => sB hS rfl fun hS => sM hS rfl fun hS => sM hS rfl fun hS => qK hS rfl Tryd.call109 (xm cq hcq hG K LG (qi (LF - LI)) (qi ((qi (LF + LL)) - LI)) LI LE LB LC LD LN LT LS (hS.st.part 2 [0, 1] (by kernel_rfl)) (qx hM) (fun LW L1 Ma w hM Mt Mu L6 hst => qJ hS.ev hst.appF rfl fun hS => ?_))
     replace hS : Ss _ _ _ H [LE, Ma] F _ _ := hS
     have Mn := Eq.trans L6 LU
     replace hS := hS.re 0 (u := .slice LB LD.length LC) (v := .slice LB LW.length LC) rfl (by rw [L6])
     replace hS := hS.re 35 (u := .slice LB LD.length LC) (v := .slice LB LW.length LC) rfl (by rw [L6])
     refine qz <| zI <| sM hS rfl fun hS => sM hS rfl fun hS => sB hS rfl fun hS => zH (v := Value.int .i64) (x0 := (qi (LL - LI))) hS (xv rfl) rfl fun MA a w hz hS => ?_
     have hM := qB hz hM; clear hz
     refine zd <| zz (qc ?_)
     exact L8 _ _ ⟨LW, L1, Ma, LI, MA, hS.to [0, 1] (by kernel_rfl) ⟨rfl, rfl, rfl, rfl, rfl, trivial⟩, Mt, Mu, Mn, hM⟩
   ·refine wp_exit ?_
    refine qC (qC (q9 (qc ?_)))
    exact Me _ _ ⟨LD, LG, LN, LI, hS.to [0, 1] (by kernel_rfl) ⟨rfl, rfl, rfl, rfl, trivial⟩, LS, LT, LU, hM⟩
 ·intro a w hI
  obtain ⟨LJ, LK, LZ, LP, hS, Mg, Mk, Mp, hM⟩ := hI
  rw [qw.j2] at hM
  refine zI <| sM hS rfl fun hS => sM hS rfl fun hS => sM hS rfl fun hS => sB hS rfl fun hS => sM hS rfl fun hS => sM hS rfl fun hS => sM hS rfl fun hS => qK hS rfl Tryd.call109 (xm cq hcq hG K LK (qi (LF - LP)) LF LP LE LB LC LJ LZ Mk Mg (hS.st.part 2 [0, 1] (by kernel_rfl)) (qx hM) (fun LX L3 Mb w hM Mv Mw L7 hst => qJ hS.ev hst.appF rfl fun hS => ?_))
  replace hS : Ss _ _ _ H [LE, Mb] F _ _ := hS
  have Mq := Eq.trans L7 Mp
  replace hS := hS.re 0 (u := .slice LB LJ.length LC) (v := .slice LB LX.length LC) rfl (by rw [L7])
  replace hS := hS.re 50 (u := .slice LB LJ.length LC) (v := .slice LB LX.length LC) rfl (by rw [L7])
  refine zd ?_
  exact vg (rs := []) hS rfl rfl (hret LX L3 Mb _ (qU hM) Mv Mw Mq (hS.st.pick [0, 1] (by kernel_rfl)))
end Go.TrydS

set_option maxRecDepth 100000
namespace Go.TrydS
open Go Go.Sl Go.Mo Go.Proofs
attribute [local irreducible] qN.wp
theorem yx (cq : Nat) (hcq : cq = 57 ∨ cq = 84) (K : Nat) : ∀ (d : Nat) {H : xU} {F : List qm} {w : World} {R : Ending → World → Prop} {kr : (List qb) → Prop} {kp : Value → Prop} (hG : Gl H) (LB : List qb) (LJ : Int) (LK : Int) (LN : Int) (LM : qm) (LC : Option Addr) (LF : Nat) (LI : List (z2 2)) (LU : qm) (LO : zN (ql LM) LB LI) (LT : xh 112 (z2.v (sz := 2)) 2 LC LI LF LU)
    (hS : St w H [LM, LU] F) (hm : (qa.r K d LB LJ LK LN).wp kr kp)
    (hret : ∀ (MO : List (z2 2)) (Mw : (List qb)) (NJ : qm) (w : World), kr Mw → (xh 112 (z2.v (sz := 2)) 2 LC MO LF NJ) → (zN (ql LM) Mw MO) → (MO.length = LI.length) → St w H [LM, NJ] F → R (.returned (.tuple ⟨[]⟩)) w),
    Calls Tryd.prog 100 ⟨[.slice LC LI.length LF, .int .i64 LJ, .int .i64 LK, .int .i64 LN, vC cq [] []]⟩ w R := by
  intro d
  induction d with
  | zero => intro H F w R kr kp hG LB LJ LK LN LM LC LF LI LU LO LT hS hm hret; exact (zr hm).elim
  | succ d ih =>
  intro H F w R kr kp hG LB LJ LK LN LM LC LF LI LU LO LT hS hm hret
  have hM := hm; clear hm
  rw [qa.r] at hM; rw [qa.b] at hM
  refine enter Tryd.func100 rfl Tryd.ntmps100 rfl hS fun a w hS => ?_
  have P6 : ∀ q ∈ LM, q ∈ LM := fun _ h => h
  have Mv : LI.length = LI.length := rfl
  refine zx (fun a w => Ss 220 [] [(0, .slice LC LI.length LF), (1, .int .i64 LJ), (2, .int .i64 LK), (3, .int .i64 LN), (4, vC cq [] [])] H [LM, LU] F a w ∧ (qa.j4 K (qa.r K d) LB LJ LK LN).wp kr kp) (fun Sa NR => ?_) ?_
  ·refine wp_seq ?_
   refine zI <| sM hS rfl fun hS => sM hS rfl fun hS => sB hS rfl fun hS => sB hS rfl fun hS => qz <| qy hS rfl hM (fun NY hM => ?_) (fun NY hM => ?_)
   ·refine wp_seq ?_
    refine zI <| sM hS rfl fun hS => sA hS rfl fun hS => qz <| qk <| sM hS rfl fun hS => sA hS rfl fun hS => qz <| zx (fun a w => ∃ (Mn : Int), Ss 220 [] [(0, .slice LC LI.length LF), (1, .int .i64 LJ), (10, .int .i64 Mn)] H [LM, LU] F a w ∧ (qa.j2 K (qa.r K d) LB LJ Mn).wp kr kp) (fun P8 NP => ?_) ?_
    ·refine xJ ?_
     refine zv (fun NK a w => ∃ (Ml : Int) (Mq : Int), Ss 220 [] [(0, .slice LC LI.length LF), (1, .int .i64 LJ), (4, vC cq [] []), (10, .int .i64 Ml), (11, .int .i64 Mq)] H [LM, LU] F a w ∧ (qa.l1 K (qa.r K d) LB LJ NK Ml Mq).wp kr kp) K ?_ ?_ ?_
     ·exact ⟨LK, LN, hS.to [0, 1] (by kernel_rfl) ⟨rfl, rfl, rfl, rfl, rfl, trivial⟩, hM⟩
     ·intro a w hI; obtain ⟨_, _, _, hM⟩ := hI; exact zr hM
     ·intro NK a w hI P7 Nh
      obtain ⟨Ml, Mq, hS, hM⟩ := hI
      rw [qa.l1] at hM
      refine wp_seq <| qk <| sM hS rfl fun hS => sM hS rfl fun hS => sB hS rfl fun hS => qz <| qy hS rfl hM (fun NZ hM => ?_) (fun NZ hM => ?_)
      ·refine wp_skip ?_
       refine qc <| xJ <| qk <| sM hS rfl fun hS => sM hS rfl fun hS => sB hS rfl fun hS => sO hS (vH rfl Tryd.runUnderlying3 Tryd.runUnderlying39) rfl fun hS => sO hS (shr rfl rfl rfl) rfl fun hS => sO hS (vH rfl Tryd.runUnderlying39 Tryd.runUnderlying3) rfl fun hS => zH (v := Value.int .i64) (x0 := (wr .i64 (xF .u64 (wr .u64 (qi (Ml + Mq))) (1 : Int)))) hS (xv rfl) rfl fun LY a w hz hS => ?_
       have hM := qB hz hM; clear hz
       refine qz <| wp_seq ?_
       obtain ⟨Mz, hM⟩ := qE hM
       obtain ⟨MP, MV, Py, Pn, Pc⟩ := LO.get Mz
       obtain ⟨MA, hM⟩ := qE hM
       obtain ⟨MQ, MW, Pz, Po, Pd⟩ := LO.get MA
       refine zh (vals := [some (vC cq [] []), some (.slice LC LI.length LF), some (.int .i64 LY), some (xz LC (Int.toNat LY * 2)), some (.agg ⟨[.int .i64 ((rd LB LY).often_), .slice MP ((rd LB LY).symbols_).length MV]⟩), some (.slice LC LI.length LF), some (.int .i64 LJ), some (xz LC (Int.toNat LJ * 2)), some (.agg ⟨[.int .i64 ((rd LB LJ).often_), .slice MQ ((rd LB LJ).symbols_).length MW]⟩), none, none]) hS xH rfl ?_
       intro l w ho hcl hA hst
       refine jQ hA hst ho hcl xQ xI 9 [0, 1, 2, 3, 4, 5, 6, 7, 8] rfl rfl rfl rfl rfl (by exact ⟨nM rfl, nM rfl, nM rfl, nQ rfl (by exact qY (x6 rfl rfl Tryd.runUnderlying110 Tryd.sizeOf112 (LT.rd (i := 1) rfl) z2.len rfl (LO.inb Mz)) rfl), nQ rfl (by exact qY (qY (vS rfl (LT.rd (i := 1) rfl) z2.len (LO.inb Mz) Tryd.isAgg112 Tryd.sizeOf112 rfl) (congrArg (fun l => Value.agg ⟨l⟩) Py)) rfl), nM rfl, nM rfl, nQ rfl (by exact qY (x6 rfl rfl Tryd.runUnderlying110 Tryd.sizeOf112 (LT.rd (i := 1) rfl) z2.len rfl (LO.inb MA)) rfl), nQ rfl (by exact qY (qY (vS rfl (LT.rd (i := 1) rfl) z2.len (LO.inb MA) Tryd.isAgg112 Tryd.sizeOf112 rfl) (congrArg (fun l => Value.agg ⟨l⟩) Pz)) rfl), trivial⟩) fun D l a w ho hcl hav hpre hm hE hk hA hst => ?_
       have hS := (Ss.mk hE hst).env2 (e' := [(40, vC cq [] []), (44, .agg ⟨[.int .i64 ((rd LB LY).often_), .slice MP ((rd LB LY).symbols_).length MV]⟩), (48, .agg ⟨[.int .i64 ((rd LB LJ).often_), .slice MQ ((rd LB LJ).symbols_).length MW]⟩)]) ⟨rfl, rfl, rfl, trivial⟩
       refine zi rfl <| Zk hS rfl rfl (Q7 hcq) (Z8 cq hcq hG K (qb.mk ((rd LB LY).often_) ((rd LB LY).symbols_)) (qb.mk ((rd LB LJ).often_) ((rd LB LJ).symbols_)) MP MV MQ MW (Pn.rdF (i := 0) rfl) Pc (Po.rdF (i := 0) rfl) Pd (hS.st.part 0 [0, 1] (by kernel_rfl)) (qx hM) (fun NF w hM  hst => qJ hS.ev hst.appF rfl fun hS => ?_))
       replace hS : Ss _ _ _ H [LM, LU] F _ _ := hS
       refine qz ?_
       replace hst := hS.st
       obtain ⟨hcl, hmust, hav2, hA⟩ := dn (vals' := [some (vC cq [] []), some (.slice LC LI.length LF), some (.int .i64 LY), some (xz LC (Int.toNat LY * 2)), some (.agg ⟨[.int .i64 ((rd LB LY).often_), .slice MP ((rd LB LY).symbols_).length MV]⟩), some (.slice LC LI.length LF), some (.int .i64 LJ), some (xz LC (Int.toNat LJ * 2)), some (.agg ⟨[.int .i64 ((rd LB LJ).often_), .slice MQ ((rd LB LJ).symbols_).length MW]⟩), some (.int .i64 NF), some (.bool (decide (NF < (0 : Int))))]) 9 [(0, 9), (4, 9), (8, 9), (3, 4), (7, 8), (1, 3), (2, 3), (5, 7), (6, 7)] hA hcl hav hm hpre hk rfl rfl rfl rfl rfl rfl rfl
       clear hm hav
       refine yo hA hst ho hcl hmust [10] rfl rfl rfl (by exact ⟨nB rfl, trivial⟩) fun a w hS => ?_
       replace hS := hS.env2 (e' := [(0, .slice LC LI.length LF), (1, .int .i64 LJ), (4, vC cq [] []), (10, .int .i64 Ml), (11, .int .i64 Mq), (12, .int .i64 LY), (50, .bool (decide (NF < (0 : Int))))]) ⟨rfl, rfl, rfl, rfl, rfl, rfl, rfl, trivial⟩
       refine qc <| qy hS rfl hM (fun N0 hM => ?_) (fun N0 hM => ?_)
       ·refine zI ?_
        refine sM hS rfl fun hS => sB hS rfl fun hS => zH (v := Value.int .i64) (x0 := (qi (LY + (1 : Int)))) hS (xv rfl) rfl fun P4 a w hz hS => ?_
        have hM := qB hz hM; clear hz
        refine zd <| zz (qc ?_)
        exact Nh _ _ ⟨P4, Mq, hS.to [0, 1] (by kernel_rfl) ⟨rfl, rfl, rfl, rfl, rfl, trivial⟩, hM⟩
       ·refine zI ?_
        refine sM hS rfl fun hS => sA hS rfl fun hS => zd <| zz (qc ?_)
        exact Nh _ _ ⟨Ml, LY, hS.to [0, 1] (by kernel_rfl) ⟨rfl, rfl, rfl, rfl, rfl, trivial⟩, hM⟩
      ·refine wp_exit ?_
       refine qC (qC (q9 (qc ?_)))
       exact NP _ _ ⟨Ml, hS.to [0, 1] (by kernel_rfl) ⟨rfl, rfl, rfl, trivial⟩, hM⟩
    ·intro a w hI
     obtain ⟨Mn, hS, hM⟩ := hI
     rw [qa.j2] at hM
     refine wp_seq <| qk <| sM hS rfl fun hS => sA hS rfl fun hS => qz <| xJ <| zv (fun NL a w => ∃ (LQ : List (z2 2)) (LG : (List qb)) (M3 : qm) (LD : Int), Ss 220 [] [(0, .slice LC LQ.length LF), (10, .int .i64 Mn), (13, .int .i64 LD)] H [LM, M3] F a w ∧ (xh 112 (z2.v (sz := 2)) 2 LC LQ LF M3) ∧ (zN (ql LM) LG LQ) ∧ (LQ.length = LI.length) ∧ (qa.l3 K (qa.r K d) Mn NL LG LD).wp kr kp) K ?_ ?_ ?_
     ·exact ⟨LI, LB, LU, LJ, hS.to [0, 1] (by kernel_rfl) ⟨rfl, rfl, rfl, trivial⟩, LT, LO, Mv, hM⟩
     ·intro a w hI; obtain ⟨_, _, _, _, _, _, _, _, hM⟩ := hI; exact zr hM
     ·intro NL a w hI P9 NQ
      obtain ⟨LQ, LG, M3, LD, hS, L9, L0, Nx, hM⟩ := hI
      rw [qa.l3] at hM
      refine wp_seq <| qk <| sM hS rfl fun hS => sM hS rfl fun hS => sB hS rfl fun hS => sB hS rfl fun hS => qz <| qy hS rfl hM (fun N1 hM => ?_) (fun N1 hM => ?_)
      ·refine wp_skip ?_
       refine qc <| wp_seq <| xJ ?_
       obtain ⟨MB, hM⟩ := qE hM
       obtain ⟨Mb, Mf, PA, Pp, Pe⟩ := L0.get MB
       obtain ⟨Mj, hM⟩ := qE hM
       obtain ⟨Mc, Mg, PB, Pq, Pf⟩ := L0.get Mj
       refine zh (vals := [some (.slice LC LQ.length LF), some (.int .i64 LD), some (.slice LC LQ.length LF), some (.int .i64 LD), some (.int .i64 (qi (LD + (1 : Int)))), some (.slice LC LQ.length LF), some (.int .i64 LD), some (.int .i64 (qi (LD + (1 : Int)))), some (xz LC (Int.toNat (qi (LD + (1 : Int))) * 2)), some (.agg ⟨[.int .i64 ((rd LG (qi (LD + (1 : Int)))).often_), .slice Mb ((rd LG (qi (LD + (1 : Int)))).symbols_).length Mf]⟩), some (.slice LC LQ.length LF), some (.int .i64 LD), some (xz LC (Int.toNat LD * 2)), some (.agg ⟨[.int .i64 ((rd LG LD).often_), .slice Mc ((rd LG LD).symbols_).length Mg]⟩), some (xz LC (Int.toNat LD * 2)), none, none, none]) hS xH rfl ?_
       intro l w ho hcl hA hst
       refine jQ hA hst ho hcl xQ xI 15 [0, 1, 2, 3, 4, 5, 6, 7, 8, 9, 10, 11, 12, 13, 14] rfl rfl rfl rfl rfl (by exact ⟨nM rfl, nM rfl, nM rfl, nM rfl, nB rfl, nM rfl, nM rfl, nB rfl, nQ rfl (by exact qY (x6 rfl rfl Tryd.runUnderlying110 Tryd.sizeOf112 (L9.rd (i := 1) rfl) z2.len rfl (L0.inb MB)) rfl), nQ rfl (by exact qY (qY (vS rfl (L9.rd (i := 1) rfl) z2.len (L0.inb MB) Tryd.isAgg112 Tryd.sizeOf112 rfl) (congrArg (fun l => Value.agg ⟨l⟩) PA)) rfl), nM rfl, nM rfl, nQ rfl (by exact qY (x6 rfl rfl Tryd.runUnderlying110 Tryd.sizeOf112 (L9.rd (i := 1) rfl) z2.len rfl (L0.inb Mj)) rfl), nQ rfl (by exact qY (qY (vS rfl (L9.rd (i := 1) rfl) z2.len (L0.inb Mj) Tryd.isAgg112 Tryd.sizeOf112 rfl) (congrArg (fun l => Value.agg ⟨l⟩) PB)) rfl), nQ rfl (by exact qY (x6 rfl rfl Tryd.runUnderlying110 Tryd.sizeOf112 (L9.rd (i := 1) rfl) z2.len rfl (L0.inb Mj)) rfl), trivial⟩) fun D l a w ho hcl hav hpre hm hE hk hA hst => ?_
       have hS := (Ss.mk hE hst).env2 (e' := [(70, .agg ⟨[.int .i64 ((rd LG (qi (LD + (1 : Int)))).often_), .slice Mb ((rd LG (qi (LD + (1 : Int)))).symbols_).length Mf]⟩), (75, xz LC (Int.toNat LD * 2))]) ⟨rfl, rfl, trivial⟩
       refine zi rfl <| Ve (i := LD) (sz := 2) 1 (⟨[.int .i64 ((rd LG (qi (LD + (1 : Int)))).often_), .slice Mb ((rd LG (qi (LD + (1 : Int)))).symbols_).length Mf], by simp, by simp [Value.oneCell']⟩ : z2 2) hS rfl rfl L9 rfl Tryd.sizeOf112 rfl (L0.inb Mj) fun ND w Sk hz Nn hS => ?_
       obtain ⟨PS, hzm⟩ := ur (LG.set (Int.toNat LD) (qb.mk ((rd LG (qi (LD + (1 : Int)))).often_) ((rd LG (qi (LD + (1 : Int)))).symbols_)))
       replace hM := qB hzm hM
       have Mt := zN.set (x := (qb.mk ((rd LG (qi (LD + (1 : Int)))).often_) ((rd LG (qi (LD + (1 : Int)))).symbols_))) (r := (⟨[.int .i64 ((rd LG (qi (LD + (1 : Int)))).often_), .slice Mb ((rd LG (qi (LD + (1 : Int)))).symbols_).length Mf], by simp, by simp [Value.oneCell']⟩ : z2 2)) (Int.toNat LD) L0 (show ql LM _ _ from ⟨Mb, Mf, rfl, Pp, Pe⟩)
       have MH : ND.length = LQ.length := by rw [hz]; exact List.length_set ..
       rw [← hz, ← hzm] at Mt; clear hz hzm
       have PI := Eq.trans MH Nx
       refine qz ?_
       replace hst := hS.st
       obtain ⟨Nr, hM⟩ := qE hM
       obtain ⟨hcl, hmust, hav2, hA⟩ := Jy (vals' := [some (.slice LC LQ.length LF), some (.int .i64 LD), some (.slice LC LQ.length LF), some (.int .i64 LD), some (.int .i64 (qi (LD + (1 : Int)))), some (.slice LC LQ.length LF), some (.int .i64 LD), some (.int .i64 (qi (LD + (1 : Int)))), some (xz LC (Int.toNat (qi (LD + (1 : Int))) * 2)), some (.agg ⟨[.int .i64 ((rd LG (qi (LD + (1 : Int)))).often_), .slice Mb ((rd LG (qi (LD + (1 : Int)))).symbols_).length Mf]⟩), some (.slice LC LQ.length LF), some (.int .i64 LD), some (xz LC (Int.toNat LD * 2)), some (.agg ⟨[.int .i64 ((rd LG LD).often_), .slice Mc ((rd LG LD).symbols_).length Mg]⟩), some (xz LC (Int.toNat LD * 2)), some undef, some (xz LC (Int.toNat (qi (LD + (1 : Int))) * 2)), none]) 15 [(0, 15), (1, 15), (5, 15), (6, 15), (7, 15), (8, 15), (9, 15), (13, 15), (14, 15), (12, 13), (10, 12), (11, 12)] hA hcl hav hm hpre rfl rfl rfl rfl rfl
       clear hm hav
       refine jQ hA hst ho hcl hav2 hmust 17 [2, 3, 4, 16] rfl rfl rfl rfl rfl (by exact ⟨nM rfl, nM rfl, nB rfl, nQ rfl (by exact qY (x6 (KN MH rfl) rfl Tryd.runUnderlying110 Tryd.sizeOf112 (Nn.rd (i := 1) rfl) z2.len rfl (Mt.inb Nr)) rfl), trivial⟩) fun D l a w ho hcl hav hpre hm hE hk hA hst => ?_
       have hS := (Ss.mk hE hst).env2 (e' := [(74, .agg ⟨[.int .i64 ((rd LG LD).often_), .slice Mc ((rd LG LD).symbols_).length Mg]⟩), (76, xz LC (Int.toNat (qi (LD + (1 : Int))) * 2))]) ⟨rfl, rfl, trivial⟩
       refine zi rfl <| Ve (i := (qi (LD + (1 : Int)))) (sz := 2) 1 (⟨[.int .i64 ((rd LG LD).often_), .slice Mc ((rd LG LD).symbols_).length Mg], by simp, by simp [Value.oneCell']⟩ : z2 2) hS rfl rfl Nn rfl Tryd.sizeOf112 rfl (Mt.inb Nr) fun MJ w PW hz NW hS => ?_
       obtain ⟨PT, hzm⟩ := ur (PS.set (Int.toNat (qi (LD + (1 : Int)))) (qb.mk ((rd LG LD).often_) ((rd LG LD).symbols_)))
       replace hM := qB hzm hM
       have Nt := zN.set (x := (qb.mk ((rd LG LD).often_) ((rd LG LD).symbols_))) (r := (⟨[.int .i64 ((rd LG LD).often_), .slice Mc ((rd LG LD).symbols_).length Mg], by simp, by simp [Value.oneCell']⟩ : z2 2)) (Int.toNat (qi (LD + (1 : Int)))) Mt (show ql LM _ _ from ⟨Mc, Mg, rfl, Pq, Pf⟩)
       have Ny : MJ.length = ND.length := by rw [hz]; exact List.length_set ..
       rw [← hz, ← hzm] at Nt; clear hz hzm
       have PJ := Eq.trans Ny PI
       refine qz ?_
       replace hst := hS.st
       obtain ⟨hcl, hmust, hav2, hA⟩ := Jy (vals' := [some (.slice LC LQ.length LF), some (.int .i64 LD), some (.slice LC LQ.length LF), some (.int .i64 LD), some (.int .i64 (qi (LD + (1 : Int)))), some (.slice LC LQ.length LF), some (.int .i64 LD), some (.int .i64 (qi (LD + (1 : Int)))), some (xz LC (Int.toNat (qi (LD + (1 : Int))) * 2)), some (.agg ⟨[.int .i64 ((rd LG (qi (LD + (1 : Int)))).often_), .slice Mb ((rd LG (qi (LD + (1 : Int)))).symbols_).length Mf]⟩), some (.slice LC LQ.length LF), some (.int .i64 LD), some (xz LC (Int.toNat LD * 2)), some (.agg ⟨[.int .i64 ((rd LG LD).often_), .slice Mc ((rd LG LD).symbols_).length Mg]⟩), some (xz LC (Int.toNat LD * 2)), some undef, some (xz LC (Int.toNat (qi (LD + (1 : Int))) * 2)), some undef]) 17 [(0, 17), (1, 17), (2, 17), (3, 17), (4, 17), (5, 17), (6, 17), (7, 17), (8, 17), (9, 17), (10, 17), (11, 17), (12, 17), (13, 17), (14, 17), (15, 17), (16, 17)] hA hcl hav hm hpre rfl rfl rfl rfl rfl
       clear hm hav
       refine yo hA hst ho hcl hmust [] rfl rfl rfl trivial fun a w hS => ?_
       replace hS := hS.env2 (e' := [(0, .slice LC MJ.length LF), (10, .int .i64 Mn), (13, .int .i64 LD)]) ⟨(U1 (u := .slice LC LQ.length LF) rfl (by rw [Ny, MH])), rfl, rfl, trivial⟩
       refine zz (qc ?_)
       refine zI <| sM hS rfl fun hS => sB hS rfl fun hS => zH (v := Value.int .i64) (x0 := (qi (LD + (1 : Int)))) hS (xv rfl) rfl fun PQ a w hz hS => ?_
       have hM := qB hz hM; clear hz
       refine zd <| qc ?_
       exact NQ _ _ ⟨MJ, PT, PW, PQ, hS.to [0, 1] (by kernel_rfl) ⟨rfl, rfl, rfl, trivial⟩, NW, Nt, PJ, hM⟩
      ·refine wp_exit ?_
       refine qC (qC (q9 (qc ?_)))
       refine wp_ret <| qA ?_
       exact zm (rs := []) hS rfl rfl (hret LQ LG M3 _ (qU hM) L9 L0 Nx (hS.st.pick [0, 1] (by kernel_rfl)))
   ·refine wp_skip ?_
    refine qc ?_
    exact NR _ _ ⟨hS.to [0, 1] (by kernel_rfl) ⟨rfl, rfl, rfl, rfl, rfl, trivial⟩, hM⟩
  ·intro a w hI
   obtain ⟨hS, hM⟩ := hI
   rw [qa.j4] at hM
   refine zx (fun a w => Ss 220 [] [(0, .slice LC LI.length LF), (1, .int .i64 LJ), (2, .int .i64 LK), (3, .int .i64 LN), (4, vC cq [] [])] H [LM, LU] F a w ∧ (qa.j8 K (qa.r K d) LB LJ LK LN).wp kr kp) (fun Se NU => ?_) ?_
   ·refine wp_seq ?_
    refine zI <| sM hS rfl fun hS => sM hS rfl fun hS => sB hS rfl fun hS => sB hS rfl fun hS => qz <| qy hS rfl hM (fun N2 hM => ?_) (fun N2 hM => ?_)
    ·refine wp_seq ?_
     refine zI <| sM hS rfl fun hS => sA hS rfl fun hS => qz <| qk <| sM hS rfl fun hS => sA hS rfl fun hS => qz <| zx (fun a w => ∃ (Mp : Int), Ss 220 [] [(0, .slice LC LI.length LF), (2, .int .i64 LK), (14, .int .i64 Mp)] H [LM, LU] F a w ∧ (qa.j6 K (qa.r K d) LB LK Mp).wp kr kp) (fun Sc NS => ?_) ?_
     ·refine xJ ?_
      refine zv (fun NM a w => ∃ (Mm : Int) (Mr : Int), Ss 220 [] [(0, .slice LC LI.length LF), (2, .int .i64 LK), (4, vC cq [] []), (14, .int .i64 Mm), (15, .int .i64 Mr)] H [LM, LU] F a w ∧ (qa.l5 K (qa.r K d) LB LK NM Mm Mr).wp kr kp) K ?_ ?_ ?_
      ·exact ⟨LJ, LK, hS.to [0, 1] (by kernel_rfl) ⟨rfl, rfl, rfl, rfl, rfl, trivial⟩, hM⟩
      ·intro a w hI; obtain ⟨_, _, _, hM⟩ := hI; exact zr hM
      ·intro NM a w hI Sb Ni
       obtain ⟨Mm, Mr, hS, hM⟩ := hI
       rw [qa.l5] at hM
       refine wp_seq <| qk <| sM hS rfl fun hS => sM hS rfl fun hS => sB hS rfl fun hS => qz <| qy hS rfl hM (fun N3 hM => ?_) (fun N3 hM => ?_)
       ·refine wp_skip ?_
        refine qc <| xJ <| qk <| sM hS rfl fun hS => sM hS rfl fun hS => sB hS rfl fun hS => sO hS (vH rfl Tryd.runUnderlying3 Tryd.runUnderlying39) rfl fun hS => sO hS (shr rfl rfl rfl) rfl fun hS => sO hS (vH rfl Tryd.runUnderlying39 Tryd.runUnderlying3) rfl fun hS => zH (v := Value.int .i64) (x0 := (wr .i64 (xF .u64 (wr .u64 (qi (Mm + Mr))) (1 : Int)))) hS (xv rfl) rfl fun LZ a w hz hS => ?_
        have hM := qB hz hM; clear hz
        refine qz <| wp_seq ?_
        obtain ⟨MC, hM⟩ := qE hM
        obtain ⟨MR, MX, PC, Pr, Pg⟩ := LO.get MC
        obtain ⟨MD, hM⟩ := qE hM
        obtain ⟨MS, MY, PD, Ps, Ph⟩ := LO.get MD
        refine zh (vals := [some (vC cq [] []), some (.slice LC LI.length LF), some (.int .i64 LK), some (xz LC (Int.toNat LK * 2)), some (.agg ⟨[.int .i64 ((rd LB LK).often_), .slice MR ((rd LB LK).symbols_).length MX]⟩), some (.slice LC LI.length LF), some (.int .i64 LZ), some (xz LC (Int.toNat LZ * 2)), some (.agg ⟨[.int .i64 ((rd LB LZ).often_), .slice MS ((rd LB LZ).symbols_).length MY]⟩), none, none, none]) hS xH rfl ?_
        intro l w ho hcl hA hst
        refine jQ hA hst ho hcl xQ xI 9 [0, 1, 2, 3, 4, 5, 6, 7, 8] rfl rfl rfl rfl rfl (by exact ⟨nM rfl, nM rfl, nM rfl, nQ rfl (by exact qY (x6 rfl rfl Tryd.runUnderlying110 Tryd.sizeOf112 (LT.rd (i := 1) rfl) z2.len rfl (LO.inb MC)) rfl), nQ rfl (by exact qY (qY (vS rfl (LT.rd (i := 1) rfl) z2.len (LO.inb MC) Tryd.isAgg112 Tryd.sizeOf112 rfl) (congrArg (fun l => Value.agg ⟨l⟩) PC)) rfl), nM rfl, nM rfl, nQ rfl (by exact qY (x6 rfl rfl Tryd.runUnderlying110 Tryd.sizeOf112 (LT.rd (i := 1) rfl) z2.len rfl (LO.inb MD)) rfl), nQ rfl (by exact qY (qY (vS rfl (LT.rd (i := 1) rfl) z2.len (LO.inb MD) Tryd.isAgg112 Tryd.sizeOf112 rfl) (congrArg (fun l => Value.agg ⟨l⟩) PD)) rfl), trivial⟩) fun D l a w ho hcl hav hpre hm hE hk hA hst => ?_
        have hS := (Ss.mk hE hst).env2 (e' := [(92, vC cq [] []), (96, .agg ⟨[.int .i64 ((rd LB LK).often_), .slice MR ((rd LB LK).symbols_).length MX]⟩), (100, .agg ⟨[.int .i64 ((rd LB LZ).often_), .slice MS ((rd LB LZ).symbols_).length MY]⟩)]) ⟨rfl, rfl, rfl, trivial⟩
        refine zi rfl <| Zk hS rfl rfl (Q7 hcq) (Z8 cq hcq hG K (qb.mk ((rd LB LK).often_) ((rd LB LK).symbols_)) (qb.mk ((rd LB LZ).often_) ((rd LB LZ).symbols_)) MR MX MS MY (Pr.rdF (i := 0) rfl) Pg (Ps.rdF (i := 0) rfl) Ph (hS.st.part 0 [0, 1] (by kernel_rfl)) (qx hM) (fun M6 w hM  hst => qJ hS.ev hst.appF rfl fun hS => ?_))
        replace hS : Ss _ _ _ H [LM, LU] F _ _ := hS
        refine qz ?_
        replace hst := hS.st
        obtain ⟨hcl, hmust, hav2, hA⟩ := dn (vals' := [some (vC cq [] []), some (.slice LC LI.length LF), some (.int .i64 LK), some (xz LC (Int.toNat LK * 2)), some (.agg ⟨[.int .i64 ((rd LB LK).often_), .slice MR ((rd LB LK).symbols_).length MX]⟩), some (.slice LC LI.length LF), some (.int .i64 LZ), some (xz LC (Int.toNat LZ * 2)), some (.agg ⟨[.int .i64 ((rd LB LZ).often_), .slice MS ((rd LB LZ).symbols_).length MY]⟩), some (.int .i64 M6), some (.bool (decide (M6 < (0 : Int)))), some (.bool (!(decide (M6 < (0 : Int)))))]) 9 [(0, 9), (4, 9), (8, 9), (3, 4), (7, 8), (1, 3), (2, 3), (5, 7), (6, 7)] hA hcl hav hm hpre hk rfl rfl rfl rfl rfl rfl rfl
        clear hm hav
        refine yo hA hst ho hcl hmust [10, 11] rfl rfl rfl (by exact ⟨nB rfl, nQ rfl (by exact qY (un rfl rfl) rfl), trivial⟩) fun a w hS => ?_
        replace hS := hS.env2 (e' := [(0, .slice LC LI.length LF), (2, .int .i64 LK), (4, vC cq [] []), (14, .int .i64 Mm), (15, .int .i64 Mr), (16, .int .i64 LZ), (103, .bool (!(decide (M6 < (0 : Int)))))]) ⟨rfl, rfl, rfl, rfl, rfl, rfl, rfl, trivial⟩
        refine qc <| qy hS rfl hM (fun N4 hM => ?_) (fun N4 hM => ?_)
        ·refine zI ?_
         refine sM hS rfl fun hS => sB hS rfl fun hS => zH (v := Value.int .i64) (x0 := (qi (LZ + (1 : Int)))) hS (xv rfl) rfl fun P5 a w hz hS => ?_
         have hM := qB hz hM; clear hz
         refine zd <| zz (qc ?_)
         exact Ni _ _ ⟨P5, Mr, hS.to [0, 1] (by kernel_rfl) ⟨rfl, rfl, rfl, rfl, rfl, trivial⟩, hM⟩
        ·refine zI ?_
         refine sM hS rfl fun hS => sA hS rfl fun hS => zd <| zz (qc ?_)
         exact Ni _ _ ⟨Mm, LZ, hS.to [0, 1] (by kernel_rfl) ⟨rfl, rfl, rfl, rfl, rfl, trivial⟩, hM⟩
       ·refine wp_exit ?_
        refine qC (qC (q9 (qc ?_)))
        exact NS _ _ ⟨Mm, hS.to [0, 1] (by kernel_rfl) ⟨rfl, rfl, rfl, trivial⟩, hM⟩
     ·intro a w hI
      obtain ⟨Mp, hS, hM⟩ := hI
      rw [qa.j6] at hM
      refine wp_seq <| qk <| sM hS rfl fun hS => sA hS rfl fun hS => qz <| xJ <| zv (fun NN a w => ∃ (LR : List (z2 2)) (LH : (List qb)) (M4 : qm) (LE : Int), Ss 220 [] [(0, .slice LC LR.length LF), (14, .int .i64 Mp), (17, .int .i64 LE)] H [LM, M4] F a w ∧ (xh 112 (z2.v (sz := 2)) 2 LC LR LF M4) ∧ (zN (ql LM) LH LR) ∧ (LR.length = LI.length) ∧ (qa.l7 K (qa.r K d) Mp NN LH LE).wp kr kp) K ?_ ?_ ?_
      ·exact ⟨LI, LB, LU, LK, hS.to [0, 1] (by kernel_rfl) ⟨rfl, rfl, rfl, trivial⟩, LT, LO, Mv, hM⟩
      ·intro a w hI; obtain ⟨_, _, _, _, _, _, _, _, hM⟩ := hI; exact zr hM
      ·intro NN a w hI Sd NT
       obtain ⟨LR, LH, M4, LE, hS, Ma, L1, Nz, hM⟩ := hI
       rw [qa.l7] at hM
       refine wp_seq <| qk <| sM hS rfl fun hS => sM hS rfl fun hS => sB hS rfl fun hS => qz <| qy hS rfl hM (fun N5 hM => ?_) (fun N5 hM => ?_)
       ·refine wp_skip ?_
        refine qc <| wp_seq <| xJ ?_
        obtain ⟨ME, hM⟩ := qE hM
        obtain ⟨Md, Mh, PE, Pt, Pi⟩ := L1.get ME
        obtain ⟨Mk, hM⟩ := qE hM
        obtain ⟨Me, Mi, PF, Pv, Pj⟩ := L1.get Mk
        refine zh (vals := [some (.slice LC LR.length LF), some (.int .i64 LE), some (.slice LC LR.length LF), some (.int .i64 LE), some (.int .i64 (qi (LE - (1 : Int)))), some (.slice LC LR.length LF), some (.int .i64 LE), some (.int .i64 (qi (LE - (1 : Int)))), some (xz LC (Int.toNat (qi (LE - (1 : Int))) * 2)), some (.agg ⟨[.int .i64 ((rd LH (qi (LE - (1 : Int)))).often_), .slice Md ((rd LH (qi (LE - (1 : Int)))).symbols_).length Mh]⟩), some (.slice LC LR.length LF), some (.int .i64 LE), some (xz LC (Int.toNat LE * 2)), some (.agg ⟨[.int .i64 ((rd LH LE).often_), .slice Me ((rd LH LE).symbols_).length Mi]⟩), some (xz LC (Int.toNat LE * 2)), none, none, none]) hS xH rfl ?_
        intro l w ho hcl hA hst
        refine jQ hA hst ho hcl xQ xI 15 [0, 1, 2, 3, 4, 5, 6, 7, 8, 9, 10, 11, 12, 13, 14] rfl rfl rfl rfl rfl (by exact ⟨nM rfl, nM rfl, nM rfl, nM rfl, nB rfl, nM rfl, nM rfl, nB rfl, nQ rfl (by exact qY (x6 rfl rfl Tryd.runUnderlying110 Tryd.sizeOf112 (Ma.rd (i := 1) rfl) z2.len rfl (L1.inb ME)) rfl), nQ rfl (by exact qY (qY (vS rfl (Ma.rd (i := 1) rfl) z2.len (L1.inb ME) Tryd.isAgg112 Tryd.sizeOf112 rfl) (congrArg (fun l => Value.agg ⟨l⟩) PE)) rfl), nM rfl, nM rfl, nQ rfl (by exact qY (x6 rfl rfl Tryd.runUnderlying110 Tryd.sizeOf112 (Ma.rd (i := 1) rfl) z2.len rfl (L1.inb Mk)) rfl), nQ rfl (by exact qY (qY (vS rfl (Ma.rd (i := 1) rfl) z2.len (L1.inb Mk) Tryd.isAgg112 Tryd.sizeOf112 rfl) (congrArg (fun l => Value.agg ⟨l⟩) PF)) rfl), nQ rfl (by exact qY (x6 rfl rfl Tryd.runUnderlying110 Tryd.sizeOf112 (Ma.rd (i := 1) rfl) z2.len rfl (L1.inb Mk)) rfl), trivial⟩) fun D l a w ho hcl hav hpre hm hE hk hA hst => ?_
        have hS := (Ss.mk hE hst).env2 (e' := [(122, .agg ⟨[.int .i64 ((rd LH (qi (LE - (1 : Int)))).often_), .slice Md ((rd LH (qi (LE - (1 : Int)))).symbols_).length Mh]⟩), (127, xz LC (Int.toNat LE * 2))]) ⟨rfl, rfl, trivial⟩
        refine zi rfl <| Ve (i := LE) (sz := 2) 1 (⟨[.int .i64 ((rd LH (qi (LE - (1 : Int)))).often_), .slice Md ((rd LH (qi (LE - (1 : Int)))).symbols_).length Mh], by simp, by simp [Value.oneCell']⟩ : z2 2) hS rfl rfl Ma rfl Tryd.sizeOf112 rfl (L1.inb Mk) fun NE w Sm hz No hS => ?_
        obtain ⟨PU, hzm⟩ := ur (LH.set (Int.toNat LE) (qb.mk ((rd LH (qi (LE - (1 : Int)))).often_) ((rd LH (qi (LE - (1 : Int)))).symbols_)))
        replace hM := qB hzm hM
        have Mu := zN.set (x := (qb.mk ((rd LH (qi (LE - (1 : Int)))).often_) ((rd LH (qi (LE - (1 : Int)))).symbols_))) (r := (⟨[.int .i64 ((rd LH (qi (LE - (1 : Int)))).often_), .slice Md ((rd LH (qi (LE - (1 : Int)))).symbols_).length Mh], by simp, by simp [Value.oneCell']⟩ : z2 2)) (Int.toNat LE) L1 (show ql LM _ _ from ⟨Md, Mh, rfl, Pt, Pi⟩)
        have MI : NE.length = LR.length := by rw [hz]; exact List.length_set ..
        rw [← hz, ← hzm] at Mu; clear hz hzm
        have PL := Eq.trans MI Nz
        refine qz ?_
        replace hst := hS.st
        obtain ⟨Ns, hM⟩ := qE hM
        obtain ⟨hcl, hmust, hav2, hA⟩ := Jy (vals' := [some (.slice LC LR.length LF), some (.int .i64 LE), some (.slice LC LR.length LF), some (.int .i64 LE), some (.int .i64 (qi (LE - (1 : Int)))), some (.slice LC LR.length LF), some (.int .i64 LE), some (.int .i64 (qi (LE - (1 : Int)))), some (xz LC (Int.toNat (qi (LE - (1 : Int))) * 2)), some (.agg ⟨[.int .i64 ((rd LH (qi (LE - (1 : Int)))).often_), .slice Md ((rd LH (qi (LE - (1 : Int)))).symbols_).length Mh]⟩), some (.slice LC LR.length LF), some (.int .i64 LE), some (xz LC (Int.toNat LE * 2)), some (.agg ⟨[.int .i64 ((rd LH LE).often_), .slice Me ((rd LH LE).symbols_).length Mi]⟩), some (xz LC (Int.toNat LE * 2)), some undef, some (xz LC (Int.toNat (qi (LE - (1 : Int))) * 2)), none]) 15 [(0, 15), (1, 15), (5, 15), (6, 15), (7, 15), (8, 15), (9, 15), (13, 15), (14, 15), (12, 13), (10, 12), (11, 12)] hA hcl hav hm hpre rfl rfl rfl rfl rfl
        clear hm hav
        refine jQ hA hst ho hcl hav2 hmust 17 [2, 3, 4, 16] rfl rfl rfl rfl rfl (by exact ⟨nM rfl, nM rfl, nB rfl, nQ rfl (by exact qY (x6 (KN MI rfl) rfl Tryd.runUnderlying110 Tryd.sizeOf112 (No.rd (i := 1) rfl) z2.len rfl (Mu.inb Ns)) rfl), trivial⟩) fun D l a w ho hcl hav hpre hm hE hk hA hst => ?_
        have hS := (Ss.mk hE hst).env2 (e' := [(126, .agg ⟨[.int .i64 ((rd LH LE).often_), .slice Me ((rd LH LE).symbols_).length Mi]⟩), (128, xz LC (Int.toNat (qi (LE - (1 : Int))) * 2))]) ⟨rfl, rfl, trivial⟩
        refine zi rfl <| Ve (i := (qi (LE - (1 : Int)))) (sz := 2) 1 (⟨[.int .i64 ((rd LH LE).often_), .slice Me ((rd LH LE).symbols_).length Mi], by simp, by simp [Value.oneCell']⟩ : z2 2) hS rfl rfl No rfl Tryd.sizeOf112 rfl (Mu.inb Ns) fun MK w PX hz NX hS => ?_
        obtain ⟨PV, hzm⟩ := ur (PU.set (Int.toNat (qi (LE - (1 : Int)))) (qb.mk ((rd LH LE).often_) ((rd LH LE).symbols_)))
        replace hM := qB hzm hM
        have Nu := zN.set (x := (qb.mk ((rd LH LE).often_) ((rd LH LE).symbols_))) (r := (⟨[.int .i64 ((rd LH LE).often_), .slice Me ((rd LH LE).symbols_).length Mi], by simp, by simp [Value.oneCell']⟩ : z2 2)) (Int.toNat (qi (LE - (1 : Int)))) Mu (show ql LM _ _ from ⟨Me, Mi, rfl, Pv, Pj⟩)
        have NA : MK.length = NE.length := by rw [hz]; exact List.length_set ..
        rw [← hz, ← hzm] at Nu; clear hz hzm
        have PM := Eq.trans NA PL
        refine qz ?_
        replace hst := hS.st
        obtain ⟨hcl, hmust, hav2, hA⟩ := Jy (vals' := [some (.slice LC LR.length LF), some (.int .i64 LE), some (.slice LC LR.length LF), some (.int .i64 LE), some (.int .i64 (qi (LE - (1 : Int)))), some (.slice LC LR.length LF), some (.int .i64 LE), some (.int .i64 (qi (LE - (1 : Int)))), some (xz LC (Int.toNat (qi (LE - (1 : Int))) * 2)), some (.agg ⟨[.int .i64 ((rd LH (qi (LE - (1 : Int)))).often_), .slice Md ((rd LH (qi (LE - (1 : Int)))).symbols_).length Mh]⟩), some (.slice LC LR.length LF), some (.int .i64 LE), some (xz LC (Int.toNat LE * 2)), some (.agg ⟨[.int .i64 ((rd LH LE).often_), .slice Me ((rd LH LE).symbols_).length Mi]⟩), some (xz LC (Int.toNat LE * 2)), some undef, some (xz LC (Int.toNat (qi (LE - (1 : Int))) * 2)), some undef]) 17 [(0, 17), (1, 17), (2, 17), (3, 17), (4, 17), (5, 17), (6, 17), (7, 17), (8, 17), (9, 17), (10, 17), (11, 17), (12, 17), (13, 17), (14, 17), (15, 17), (16, 17)] hA hcl hav hm hpre rfl rfl rfl rfl rfl
        clear hm hav
        refine yo hA hst ho hcl hmust [] rfl rfl rfl trivial fun a w hS => ?_
        replace hS := hS.env2 (e' := [(0, .slice LC MK.length LF), (14, .int .i64 Mp), (17, .int .i64 LE)]) ⟨(U1 (u := .slice LC LR.length LF) rfl (by rw [NA, MI])), rfl, rfl, trivial⟩
        refine zz (qc ?_)
        refine zI <| sM hS rfl fun hS => sB hS rfl fun hS => zH (v := Value.int .i64) (x0 := (qi (LE - (1 : Int)))) hS (xv rfl) rfl fun PR a w hz hS => ?_
        have hM := qB hz hM; clear hz
        refine zd <| qc ?_
        exact NT _ _ ⟨MK, PV, PX, PR, hS.to [0, 1] (by kernel_rfl) ⟨rfl, rfl, rfl, trivial⟩, NX, Nu, PM, hM⟩
       ·refine wp_exit ?_
        refine qC (qC (q9 (qc ?_)))
        refine wp_ret <| qA ?_
        exact zm (rs := []) hS rfl rfl (hret LR LH M4 _ (qU hM) Ma L1 Nz (hS.st.pick [0, 1] (by kernel_rfl)))
    ·refine wp_skip ?_
     refine qc ?_
     exact NU _ _ ⟨hS.to [0, 1] (by kernel_rfl) ⟨rfl, rfl, rfl, rfl, rfl, trivial⟩, hM⟩
   ·intro a w hI
    obtain ⟨hS, hM⟩ := hI
    rw [qa.j8] at hM
    refine qk <| sM hS rfl fun hS => sM hS rfl fun hS => sB hS rfl fun hS => sO hS (vH rfl Tryd.runUnderlying3 Tryd.runUnderlying39) rfl fun hS => sO hS (shr rfl rfl rfl) rfl fun hS => sO hS (vH rfl Tryd.runUnderlying39 Tryd.runUnderlying3) rfl fun hS => zH (v := Value.int .i64) (x0 := (wr .i64 (xF .u64 (wr .u64 (qi (LJ + LN))) (1 : Int)))) hS (xv rfl) rfl fun LP a w hz hS => ?_
    have hM := qB hz hM; clear hz
    refine qz <| qk <| sM hS rfl fun hS => sM hS rfl fun hS => sB hS rfl fun hS => zH (v := Value.int .i64) (x0 := (qi (LP + LK))) hS (xv rfl) rfl fun L3 a w hz hS => ?_
    have hM := qB hz hM; clear hz
    refine qz <| qk <| sA hS rfl fun hS => sA hS rfl fun hS => qz <| zx (fun a w => ∃ (L8 : Int) (M5 : Int), Ss 220 [] [(0, .slice LC LI.length LF), (1, .int .i64 LJ), (2, .int .i64 LK), (3, .int .i64 LN), (4, vC cq [] []), (18, .int .i64 LP), (19, .int .i64 L3), (20, .int .i64 L8), (21, .int .i64 M5)] H [LM, LU] F a w ∧ (qa.j9 K (qa.r K d) LB LJ LK LN LP L3 L8 M5).wp kr kp) (fun Sf Nj => ?_) ?_
    ·refine wp_seq ?_
     refine zI <| sM hS rfl fun hS => sM hS rfl fun hS => sB hS rfl fun hS => qz <| qy hS rfl hM (fun N6 hM => ?_) (fun N6 hM => ?_)
     ·refine wp_seq ?_
      refine zI <| sM hS rfl fun hS => sM hS rfl fun hS => sB hS rfl fun hS => zH (v := Value.int .i64) (x0 := (qi (L3 - LN))) hS (xv rfl) rfl fun M8 a w hz hS => ?_
      have hM := qB hz hM; clear hz
      refine qz <| zI <| sM hS rfl fun hS => sA hS rfl fun hS => zd <| qc ?_
      exact Nj _ _ ⟨M8, LP, hS.to [0, 1] (by kernel_rfl) ⟨rfl, rfl, rfl, rfl, rfl, rfl, rfl, rfl, rfl, trivial⟩, hM⟩
     ·refine wp_seq ?_
      refine zI <| sM hS rfl fun hS => sA hS rfl fun hS => qz <| zI <| sM hS rfl fun hS => sA hS rfl fun hS => zd <| qc ?_
      exact Nj _ _ ⟨LJ, LK, hS.to [0, 1] (by kernel_rfl) ⟨rfl, rfl, rfl, rfl, rfl, rfl, rfl, rfl, rfl, trivial⟩, hM⟩
    ·intro a w hI
     obtain ⟨L8, M5, hS, hM⟩ := hI
     rw [qa.j9] at hM
     refine qk <| sM hS rfl fun hS => sB hS rfl fun hS => zH (v := Value.int .i64) (x0 := (qi (L3 - (1 : Int)))) hS (xv rfl) rfl fun LX a w hz hS => ?_
     have hM := qB hz hM; clear hz
     refine qz <| zx (fun a w => ∃ (LS : Int), Ss 220 [] [(0, .slice LC LI.length LF), (1, .int .i64 LJ), (2, .int .i64 LK), (3, .int .i64 LN), (4, vC cq [] []), (18, .int .i64 LP), (19, .int .i64 L3), (20, .int .i64 LS)] H [LM, LU] F a w ∧ (qa.j11 K (qa.r K d) LB LJ LK LN LP L3 LS).wp kr kp) (fun Sh NV => ?_) ?_
     ·refine xJ ?_
      refine zv (fun NO a w => ∃ (LW : Int) (Ms : Int), Ss 220 [] [(0, .slice LC LI.length LF), (1, .int .i64 LJ), (2, .int .i64 LK), (3, .int .i64 LN), (4, vC cq [] []), (18, .int .i64 LP), (19, .int .i64 L3), (20, .int .i64 LW), (21, .int .i64 Ms), (22, .int .i64 LX)] H [LM, LU] F a w ∧ (qa.l10 K (qa.r K d) LB LJ LK LN LP L3 LX NO LW Ms).wp kr kp) K ?_ ?_ ?_
      ·exact ⟨L8, M5, hS.to [0, 1] (by kernel_rfl) ⟨rfl, rfl, rfl, rfl, rfl, rfl, rfl, rfl, rfl, rfl, trivial⟩, hM⟩
      ·intro a w hI; obtain ⟨_, _, _, hM⟩ := hI; exact zr hM
      ·intro NO a w hI Sg Nk
       obtain ⟨LW, Ms, hS, hM⟩ := hI
       rw [qa.l10] at hM
       refine wp_seq <| qk <| sM hS rfl fun hS => sM hS rfl fun hS => sB hS rfl fun hS => qz <| qy hS rfl hM (fun N7 hM => ?_) (fun N7 hM => ?_)
       ·refine wp_skip ?_
        refine qc <| xJ <| qk <| sM hS rfl fun hS => sM hS rfl fun hS => sB hS rfl fun hS => sO hS (vH rfl Tryd.runUnderlying3 Tryd.runUnderlying39) rfl fun hS => sO hS (shr rfl rfl rfl) rfl fun hS => sO hS (vH rfl Tryd.runUnderlying39 Tryd.runUnderlying3) rfl fun hS => zH (v := Value.int .i64) (x0 := (wr .i64 (xF .u64 (wr .u64 (qi (LW + Ms))) (1 : Int)))) hS (xv rfl) rfl fun LL a w hz hS => ?_
        have hM := qB hz hM; clear hz
        refine qz <| wp_seq ?_
        obtain ⟨MF, hM⟩ := qE hM
        obtain ⟨MT, MZ, PG, Pw, Pk⟩ := LO.get MF
        obtain ⟨MG, hM⟩ := qE hM
        obtain ⟨MU, M0, PH, Px, Pm⟩ := LO.get MG
        refine zh (vals := [some (vC cq [] []), some (.slice LC LI.length LF), some (.int .i64 LX), some (.int .i64 LL), some (.int .i64 (qi (LX - LL))), some (xz LC (Int.toNat (qi (LX - LL)) * 2)), some (.agg ⟨[.int .i64 ((rd LB (qi (LX - LL))).often_), .slice MT ((rd LB (qi (LX - LL))).symbols_).length MZ]⟩), some (.slice LC LI.length LF), some (.int .i64 LL), some (xz LC (Int.toNat LL * 2)), some (.agg ⟨[.int .i64 ((rd LB LL).often_), .slice MU ((rd LB LL).symbols_).length M0]⟩), none, none, none]) hS xH rfl ?_
        intro l w ho hcl hA hst
        refine jQ hA hst ho hcl xQ xI 11 [0, 1, 2, 3, 4, 5, 6, 7, 8, 9, 10] rfl rfl rfl rfl rfl (by exact ⟨nM rfl, nM rfl, nM rfl, nM rfl, nB rfl, nQ rfl (by exact qY (x6 rfl rfl Tryd.runUnderlying110 Tryd.sizeOf112 (LT.rd (i := 1) rfl) z2.len rfl (LO.inb MF)) rfl), nQ rfl (by exact qY (qY (vS rfl (LT.rd (i := 1) rfl) z2.len (LO.inb MF) Tryd.isAgg112 Tryd.sizeOf112 rfl) (congrArg (fun l => Value.agg ⟨l⟩) PG)) rfl), nM rfl, nM rfl, nQ rfl (by exact qY (x6 rfl rfl Tryd.runUnderlying110 Tryd.sizeOf112 (LT.rd (i := 1) rfl) z2.len rfl (LO.inb MG)) rfl), nQ rfl (by exact qY (qY (vS rfl (LT.rd (i := 1) rfl) z2.len (LO.inb MG) Tryd.isAgg112 Tryd.sizeOf112 rfl) (congrArg (fun l => Value.agg ⟨l⟩) PH)) rfl), trivial⟩) fun D l a w ho hcl hav hpre hm hE hk hA hst => ?_
        have hS := (Ss.mk hE hst).env2 (e' := [(158, vC cq [] []), (164, .agg ⟨[.int .i64 ((rd LB (qi (LX - LL))).often_), .slice MT ((rd LB (qi (LX - LL))).symbols_).length MZ]⟩), (168, .agg ⟨[.int .i64 ((rd LB LL).often_), .slice MU ((rd LB LL).symbols_).length M0]⟩)]) ⟨rfl, rfl, rfl, trivial⟩
        refine zi rfl <| Zk hS rfl rfl (Q7 hcq) (Z8 cq hcq hG K (qb.mk ((rd LB (qi (LX - LL))).often_) ((rd LB (qi (LX - LL))).symbols_)) (qb.mk ((rd LB LL).often_) ((rd LB LL).symbols_)) MT MZ MU M0 (Pw.rdF (i := 0) rfl) Pk (Px.rdF (i := 0) rfl) Pm (hS.st.part 0 [0, 1] (by kernel_rfl)) (qx hM) (fun M7 w hM  hst => qJ hS.ev hst.appF rfl fun hS => ?_))
        replace hS : Ss _ _ _ H [LM, LU] F _ _ := hS
        refine qz ?_
        replace hst := hS.st
        obtain ⟨hcl, hmust, hav2, hA⟩ := dn (vals' := [some (vC cq [] []), some (.slice LC LI.length LF), some (.int .i64 LX), some (.int .i64 LL), some (.int .i64 (qi (LX - LL))), some (xz LC (Int.toNat (qi (LX - LL)) * 2)), some (.agg ⟨[.int .i64 ((rd LB (qi (LX - LL))).often_), .slice MT ((rd LB (qi (LX - LL))).symbols_).length MZ]⟩), some (.slice LC LI.length LF), some (.int .i64 LL), some (xz LC (Int.toNat LL * 2)), some (.agg ⟨[.int .i64 ((rd LB LL).often_), .slice MU ((rd LB LL).symbols_).length M0]⟩), some (.int .i64 M7), some (.bool (decide (M7 < (0 : Int)))), some (.bool (!(decide (M7 < (0 : Int)))))]) 11 [(0, 11), (6, 11), (10, 11), (5, 6), (9, 10), (1, 5), (4, 5), (7, 9), (8, 9), (2, 4), (3, 4)] hA hcl hav hm hpre hk rfl rfl rfl rfl rfl rfl rfl
        clear hm hav
        refine yo hA hst ho hcl hmust [12, 13] rfl rfl rfl (by exact ⟨nB rfl, nQ rfl (by exact qY (un rfl rfl) rfl), trivial⟩) fun a w hS => ?_
        replace hS := hS.env2 (e' := [(0, .slice LC LI.length LF), (1, .int .i64 LJ), (2, .int .i64 LK), (3, .int .i64 LN), (4, vC cq [] []), (18, .int .i64 LP), (19, .int .i64 L3), (20, .int .i64 LW), (21, .int .i64 Ms), (22, .int .i64 LX), (23, .int .i64 LL), (171, .bool (!(decide (M7 < (0 : Int)))))]) ⟨rfl, rfl, rfl, rfl, rfl, rfl, rfl, rfl, rfl, rfl, rfl, rfl, trivial⟩
        refine qc <| qy hS rfl hM (fun N8 hM => ?_) (fun N8 hM => ?_)
        ·refine zI ?_
         refine sM hS rfl fun hS => sB hS rfl fun hS => zH (v := Value.int .i64) (x0 := (qi (LL + (1 : Int)))) hS (xv rfl) rfl fun M9 a w hz hS => ?_
         have hM := qB hz hM; clear hz
         refine zd <| zz (qc ?_)
         exact Nk _ _ ⟨M9, Ms, hS.to [0, 1] (by kernel_rfl) ⟨rfl, rfl, rfl, rfl, rfl, rfl, rfl, rfl, rfl, rfl, trivial⟩, hM⟩
        ·refine zI ?_
         refine sM hS rfl fun hS => sA hS rfl fun hS => zd <| zz (qc ?_)
         exact Nk _ _ ⟨LW, LL, hS.to [0, 1] (by kernel_rfl) ⟨rfl, rfl, rfl, rfl, rfl, rfl, rfl, rfl, rfl, rfl, trivial⟩, hM⟩
       ·refine wp_exit ?_
        refine qC (qC (q9 (qc ?_)))
        exact NV _ _ ⟨LW, hS.to [0, 1] (by kernel_rfl) ⟨rfl, rfl, rfl, rfl, rfl, rfl, rfl, rfl, trivial⟩, hM⟩
     ·intro a w hI
      obtain ⟨LS, hS, hM⟩ := hI
      rw [qa.j11] at hM
      refine qk <| sM hS rfl fun hS => sM hS rfl fun hS => sB hS rfl fun hS => zH (v := Value.int .i64) (x0 := (qi (L3 - LS))) hS (xv rfl) rfl fun LV a w hz hS => ?_
      have hM := qB hz hM; clear hz
      refine qz <| zx (fun a w => ∃ (L4 : List (z2 2)) (L6 : (List qb)) (Mx : qm), Ss 220 [] [(0, .slice LC L4.length LF), (1, .int .i64 LJ), (3, .int .i64 LN), (4, vC cq [] []), (18, .int .i64 LP), (20, .int .i64 LS), (24, .int .i64 LV)] H [LM, Mx] F a w ∧ (xh 112 (z2.v (sz := 2)) 2 LC L4 LF Mx) ∧ (zN (ql LM) L6 L4) ∧ (L4.length = LI.length) ∧ (qa.j12 K (qa.r K d) LJ LN LP LS LV L6).wp kr kp) (fun Si Nl => ?_) ?_
      ·refine wp_seq ?_
       refine zI <| sM hS rfl fun hS => sM hS rfl fun hS => sB hS rfl fun hS => sM hS rfl fun hS => yw 3 true 181 (b := (decide (LS < LK))) (r := (decide (LK < LV))) hS rfl rfl rfl rfl rfl rfl rfl (fun hb a w hS K hK => ?_) rfl fun a w hS => ?_
       ·refine zK hS rfl rfl rfl hb (mv rfl) rfl fun a w hS => ?_
        refine zK hS rfl rfl rfl hb (mv rfl) rfl fun a w hS => zK hS rfl rfl rfl hb (yZ rfl rfl rfl) rfl fun a w hS => ?_
        exact zd (hK _ _ (hS.up 3 rfl rfl))
       refine qz <| qy hS rfl hM (fun N9 hM => ?_) (fun N9 hM => ?_)
       ·refine zI ?_
        refine sM hS rfl fun hS => sM hS rfl fun hS => sM hS rfl fun hS => sM hS rfl fun hS => sM hS rfl fun hS => qK hS rfl Tryd.call108 (yD cq hcq hG K LB LS LK LV LM LC LF LI LU LO LT (hS.st.part 2 [0, 1] (by kernel_rfl)) (qx hM) (fun ML Na NG w hM PY PZ Nd hst => qJ hS.ev hst.appF rfl fun hS => ?_))
        replace hS : Ss _ _ _ H [LM, NG] F _ _ := hS
        have PN := Eq.trans Nd Mv
        replace hS := hS.re 0 (u := .slice LC LI.length LF) (v := .slice LC ML.length LF) rfl (by rw [Nd])
        replace hS := hS.re 186 (u := .slice LC LI.length LF) (v := .slice LC ML.length LF) rfl (by rw [Nd])
        refine zd <| qc ?_
        exact Nl _ _ ⟨ML, Na, NG, hS.to [0, 1] (by kernel_rfl) ⟨rfl, rfl, rfl, rfl, rfl, rfl, rfl, trivial⟩, PY, PZ, PN, hM⟩
       ·refine wp_skip ?_
        refine qc ?_
        exact Nl _ _ ⟨LI, LB, LU, hS.to [0, 1] (by kernel_rfl) ⟨rfl, rfl, rfl, rfl, rfl, rfl, rfl, trivial⟩, LT, LO, Mv, hM⟩
      ·intro a w hI
       obtain ⟨L4, L6, Mx, hS, Np, Nv, NB, hM⟩ := hI
       rw [qa.j12] at hM
       refine zx (fun a w => ∃ (L5 : List (z2 2)) (L7 : (List qb)) (My : qm), Ss 220 [] [(0, .slice LC L5.length LF), (3, .int .i64 LN), (4, vC cq [] []), (18, .int .i64 LP), (24, .int .i64 LV)] H [LM, My] F a w ∧ (xh 112 (z2.v (sz := 2)) 2 LC L5 LF My) ∧ (zN (ql LM) L7 L5) ∧ (L5.length = LI.length) ∧ (qa.j13 K (qa.r K d) LN LP LV L7).wp kr kp) (fun Sj Nm => ?_) ?_
       ·refine wp_seq ?_
        refine zI <| sM hS rfl fun hS => sM hS rfl fun hS => sB hS rfl fun hS => sM hS rfl fun hS => yw 3 true 195 (b := (decide (LJ < LS))) (r := (decide (LS < LP))) hS rfl rfl rfl rfl rfl rfl rfl (fun hb a w hS K hK => ?_) rfl fun a w hS => ?_
        ·refine zK hS rfl rfl rfl hb (mv rfl) rfl fun a w hS => ?_
         refine zK hS rfl rfl rfl hb (mv rfl) rfl fun a w hS => zK hS rfl rfl rfl hb (yZ rfl rfl rfl) rfl fun a w hS => ?_
         exact zd (hK _ _ (hS.up 3 rfl rfl))
        refine qz <| qy hS rfl hM (fun Pa hM => ?_) (fun Pa hM => ?_)
        ·refine zI ?_
         refine sM hS rfl fun hS => sM hS rfl fun hS => sM hS rfl fun hS => sM hS rfl fun hS => sM hS rfl fun hS => qK hS rfl Tryd.call100 (ih hG  L6 LJ LS LP LM LC LF L4 Mx Nv Np (hS.st.part 2 [0, 1] (by kernel_rfl)) (qx hM) (fun MM Nb NH w hM P0 P1 Nf hst => qJ hS.ev hst.appF rfl fun hS => ?_))
         replace hS : Ss _ _ _ H [LM, NH] F _ _ := hS
         have PO := Eq.trans Nf NB
         replace hS := hS.re 0 (u := .slice LC L4.length LF) (v := .slice LC MM.length LF) rfl (by rw [Nf])
         replace hS := hS.re 200 (u := .slice LC L4.length LF) (v := .slice LC MM.length LF) rfl (by rw [Nf])
         refine zd <| qc ?_
         exact Nm _ _ ⟨MM, Nb, NH, hS.to [0, 1] (by kernel_rfl) ⟨rfl, rfl, rfl, rfl, rfl, trivial⟩, P0, P1, PO, hM⟩
        ·refine wp_skip ?_
         refine qc ?_
         exact Nm _ _ ⟨L4, L6, Mx, hS.to [0, 1] (by kernel_rfl) ⟨rfl, rfl, rfl, rfl, rfl, trivial⟩, Np, Nv, NB, hM⟩
       ·intro a w hI
        obtain ⟨L5, L7, My, hS, Nq, Nw, NC, hM⟩ := hI
        rw [qa.j13] at hM
        refine qk <| sM hS rfl fun hS => sM hS rfl fun hS => sB hS rfl fun hS => sM hS rfl fun hS => yw 3 true 209 (b := (decide (LP < LV))) (r := (decide (LV < LN))) hS rfl rfl rfl rfl rfl rfl rfl (fun hb a w hS K hK => ?_) rfl fun a w hS => ?_
        ·refine zK hS rfl rfl rfl hb (mv rfl) rfl fun a w hS => ?_
         refine zK hS rfl rfl rfl hb (mv rfl) rfl fun a w hS => zK hS rfl rfl rfl hb (yZ rfl rfl rfl) rfl fun a w hS => ?_
         exact zd (hK _ _ (hS.up 3 rfl rfl))
        refine qz <| qy hS rfl hM (fun Pb hM => ?_) (fun Pb hM => ?_)
        ·refine zI ?_
         refine sM hS rfl fun hS => sM hS rfl fun hS => sM hS rfl fun hS => sM hS rfl fun hS => sM hS rfl fun hS => qK hS rfl Tryd.call100 (ih hG  L7 LP LV LN LM LC LF L5 My Nw Nq (hS.st.part 2 [0, 1] (by kernel_rfl)) (qx hM) (fun MN Nc NI w hM P2 P3 Ng hst => qJ hS.ev hst.appF rfl fun hS => ?_))
         replace hS : Ss _ _ _ H [LM, NI] F _ _ := hS
         have PP := Eq.trans Ng NC
         replace hS := hS.re 0 (u := .slice LC L5.length LF) (v := .slice LC MN.length LF) rfl (by rw [Ng])
         replace hS := hS.re 214 (u := .slice LC L5.length LF) (v := .slice LC MN.length LF) rfl (by rw [Ng])
         refine zd ?_
         exact vg (rs := []) hS rfl rfl (hret MN Nc NI _ (qU hM) P2 P3 PP (hS.st.pick [0, 1] (by kernel_rfl)))
        ·refine wp_skip ?_
         exact vg (rs := []) hS rfl rfl (hret L5 L7 My _ (qU hM) Nq Nw NC (hS.st.pick [0, 1] (by kernel_rfl)))
theorem xT (cq : Nat) (hcq : cq = 57 ∨ cq = 84) {H : xU} {F : List qm} {w : World} {R : Ending → World → Prop} {kr : (List qb) → Prop} {kp : Value → Prop} (hG : Gl H) (K : Nat) (LB : List qb) (LF : Int) (LL : Int) (LG : Int) (LE : qm) (LI : Option Addr) (LJ : Nat) (LC : List (z2 2)) (LK : qm) (LO : zN (ql LE) LB LC) (LN : xh 112 (z2.v (sz := 2)) 2 LI LC LJ LK)
    (hS : St w H [LE, LK] F) (hm : (qa.m K LB LF LL LG).wp kr kp)
    (hret : ∀ (LH : List (z2 2)) (LD : (List qb)) (LM : qm) (w : World), kr LD → (xh 112 (z2.v (sz := 2)) 2 LI LH LJ LM) → (zN (ql LE) LD LH) → (LH.length = LC.length) → St w H [LE, LM] F → R (.returned (.tuple ⟨[]⟩)) w) :
    Calls Tryd.prog 100 ⟨[.slice LI LC.length LJ, .int .i64 LF, .int .i64 LL, .int .i64 LG, vC cq [] []]⟩ w R := yx cq hcq K K hG LB LF LL LG LE LI LJ LC LK LO LN hS hm hret
theorem yE (cq : Nat) (hcq : cq = 57 ∨ cq = 84) {H : xU} {F : List qm} {w : World} {R : Ending → World → Prop} {kr : (List qb) → Prop} {kp : Value → Prop} (hG : Gl H) (K : Nat) (LW : List qb) (LF : Int) (LE : qm) (LC : Option Addr) (LD : Nat) (LG : List (z2 2)) (Mh : qm) (MU : zN (ql LE) LW LG) (MO : xh 112 (z2.v (sz := 2)) 2 LC LG LD Mh)
    (hS : St w H [LE, Mh] F) (hm : (qe.m K LW LF).wp kr kp)
    (hret : ∀ (Ma : List (z2 2)) (L0 : (List qb)) (ME : qm) (w : World), kr L0 → (xh 112 (z2.v (sz := 2)) 2 LC Ma LD ME) → (zN (ql LE) L0 Ma) → (Ma.length = LG.length) → St w H [LE, ME] F → R (.returned (.tuple ⟨[]⟩)) w) :
    Calls Tryd.prog 81 ⟨[.slice LC LG.length LD, .int .i64 LF, vC cq [] []]⟩ w R := by
 refine enter Tryd.func81 rfl Tryd.ntmps81 rfl hS fun a w hS => ?_
 have hM := hm; clear hm
 rw [qe.m] at hM
 have Nd : ∀ q ∈ LE, q ∈ LE := fun _ h => h
 have MW : LG.length = LG.length := rfl
 refine qk <| sA hS rfl fun hS => qz <| qk <| sM hS rfl fun hS => sA hS rfl fun hS => sA hS rfl fun hS => qz <| zx (fun a w => ∃ (LO : List (z2 2)) (LQ : (List qb)) (Mb : qm) (LZ : Int), Ss 63 [] [(0, .slice LC LO.length LD), (1, .int .i64 LF), (2, vC cq [] []), (6, .int .i64 (20 : Int)), (7, .int .i64 LZ)] H [LE, Mb] F a w ∧ (xh 112 (z2.v (sz := 2)) 2 LC LO LD Mb) ∧ (zN (ql LE) LQ LO) ∧ (LO.length = LG.length) ∧ (qe.j2 K LF LQ LZ).wp kr kp) (fun Ng ML => ?_) ?_
 ·refine xJ ?_
  refine zv (fun MF a w => ∃ (LH : List (z2 2)) (LK : (List qb)) (L1 : qm) (LU : Int) (LS : Int), Ss 63 [] [(0, .slice LC LH.length LD), (1, .int .i64 LF), (2, vC cq [] []), (6, .int .i64 (20 : Int)), (7, .int .i64 LU), (8, .int .i64 LS)] H [LE, L1] F a w ∧ (xh 112 (z2.v (sz := 2)) 2 LC LH LD L1) ∧ (zN (ql LE) LK LH) ∧ (LH.length = LG.length) ∧ (qe.l1 K LF MF LK LU LS).wp kr kp) K ?_ ?_ ?_
  ·exact ⟨LG, LW, Mh, (0 : Int), (20 : Int), hS.to [0, 1] (by kernel_rfl) ⟨rfl, rfl, rfl, rfl, rfl, rfl, trivial⟩, MO, MU, MW, hM⟩
  ·intro a w hI; obtain ⟨_, _, _, _, _, _, _, _, _, hM⟩ := hI; exact zr hM
  ·intro MF a w hI Nf MK
   obtain ⟨LH, LK, L1, LU, LS, hS, Mn, Ms, Mw, hM⟩ := hI
   rw [qe.l1] at hM
   refine wp_seq <| qk <| sM hS rfl fun hS => sM hS rfl fun hS => sB hS rfl fun hS => qz <| qy hS rfl hM (fun MQ hM => ?_) (fun MQ hM => ?_)
   ·refine wp_skip ?_
    refine qc <| xJ <| qk <| sM hS rfl fun hS => sM hS rfl fun hS => sM hS rfl fun hS => sM hS rfl fun hS => qK hS rfl Tryd.call99 (xM cq hcq hG K LK LU LS LE LC LD LH L1 Ms Mn (hS.st.part 2 [0, 1] (by kernel_rfl)) (qx hM) (fun L6 Md MA w hM M4 M5 Mi hst => qJ hS.ev hst.appF rfl fun hS => ?_))
    replace hS : Ss _ _ _ H [LE, MA] F _ _ := hS
    have MX := Eq.trans Mi Mw
    replace hS := hS.re 0 (u := .slice LC LH.length LD) (v := .slice LC L6.length LD) rfl (by rw [Mi])
    replace hS := hS.re 14 (u := .slice LC LH.length LD) (v := .slice LC L6.length LD) rfl (by rw [Mi])
    refine qz <| qk <| sM hS rfl fun hS => sA hS rfl fun hS => qz <| zI <| sM hS rfl fun hS => sM hS rfl fun hS => sB hS rfl fun hS => zH (v := Value.int .i64) (x0 := (qi (LS + (20 : Int)))) hS (xv rfl) rfl fun MH a w hz hS => ?_
    have hM := qB hz hM; clear hz
    refine zd <| zz (qc ?_)
    exact MK _ _ ⟨L6, Md, MA, LS, MH, hS.to [0, 1] (by kernel_rfl) ⟨rfl, rfl, rfl, rfl, rfl, rfl, trivial⟩, M4, M5, MX, hM⟩
   ·refine wp_exit ?_
    refine qC (qC (q9 (qc ?_)))
    exact ML _ _ ⟨LH, LK, L1, LU, hS.to [0, 1] (by kernel_rfl) ⟨rfl, rfl, rfl, rfl, rfl, trivial⟩, Mn, Ms, Mw, hM⟩
 ·intro a w hI
  obtain ⟨LO, LQ, Mb, LZ, hS, MP, MV, MY, hM⟩ := hI
  rw [qe.j2] at hM
  refine qk <| sM hS rfl fun hS => sM hS rfl fun hS => sM hS rfl fun hS => sM hS rfl fun hS => qK hS rfl Tryd.call99 (xM cq hcq hG K LQ LZ LF LE LC LD LO Mb MV MP (hS.st.part 2 [0, 1] (by kernel_rfl)) (qx hM) (fun L7 Me MB w hM M6 M7 Mj hst => qJ hS.ev hst.appF rfl fun hS => ?_))
  replace hS : Ss _ _ _ H [LE, MB] F _ _ := hS
  have MZ := Eq.trans Mj MY
  replace hS := hS.re 0 (u := .slice LC LO.length LD) (v := .slice LC L7.length LD) rfl (by rw [Mj])
  replace hS := hS.re 23 (u := .slice LC LO.length LD) (v := .slice LC L7.length LD) rfl (by rw [Mj])
  refine qz <| xJ <| zv (fun Mc a w => ∃ (LP : List (z2 2)) (LL : (List qb)) (L3 : qm) (LB : Int), Ss 63 [] [(0, .slice LC LP.length LD), (1, .int .i64 LF), (2, vC cq [] []), (6, .int .i64 LB)] H [LE, L3] F a w ∧ (xh 112 (z2.v (sz := 2)) 2 LC LP LD L3) ∧ (zN (ql LE) LL LP) ∧ (LP.length = LG.length) ∧ (qe.l3 K LF Mc LL LB).wp kr kp) K ?_ ?_ ?_
  ·exact ⟨L7, Me, MB, (20 : Int), hS.to [0, 1] (by kernel_rfl) ⟨rfl, rfl, rfl, rfl, trivial⟩, M6, M7, MZ, hM⟩
  ·intro a w hI; obtain ⟨_, _, _, _, _, _, _, _, hM⟩ := hI; exact zr hM
  ·intro Mc a w hI Nj Mm
   obtain ⟨LP, LL, L3, LB, hS, Mp, Mt, Mx, hM⟩ := hI
   rw [qe.l3] at hM
   refine wp_seq <| qk <| sM hS rfl fun hS => sM hS rfl fun hS => sB hS rfl fun hS => qz <| qy hS rfl hM (fun MR hM => ?_) (fun MR hM => ?_)
   ·refine wp_skip ?_
    refine qc <| xJ <| qk <| sM hS rfl fun hS => sB hS rfl fun hS => sA hS rfl fun hS => zH (v := Value.int .i64) (x0 := (qi ((2 : Int) * LB))) hS (xv rfl) rfl fun MI a w hz hS => ?_
    have hM := qB hz hM; clear hz
    refine qz <| zx (fun a w => ∃ (LJ : List (z2 2)) (LN : (List qb)) (L5 : qm) (LV : Int), Ss 63 [] [(0, .slice LC LJ.length LD), (1, .int .i64 LF), (2, vC cq [] []), (6, .int .i64 LB), (7, .int .i64 LV)] H [LE, L5] F a w ∧ (xh 112 (z2.v (sz := 2)) 2 LC LJ LD L5) ∧ (zN (ql LE) LN LJ) ∧ (LJ.length = LG.length) ∧ (qe.j5 K (qe.l3 K LF Mc) LF LB LN LV).wp kr kp) (fun Ni MN => ?_) ?_
    ·refine xJ ?_
     refine zv (fun MG a w => ∃ (LI : List (z2 2)) (LM : (List qb)) (L4 : qm) (LR : Int) (LT : Int), Ss 63 [] [(0, .slice LC LI.length LD), (1, .int .i64 LF), (2, vC cq [] []), (6, .int .i64 LB), (7, .int .i64 LR), (8, .int .i64 LT)] H [LE, L4] F a w ∧ (xh 112 (z2.v (sz := 2)) 2 LC LI LD L4) ∧ (zN (ql LE) LM LI) ∧ (LI.length = LG.length) ∧ (qe.l4 K (qe.l3 K LF Mc) LF LB MG LM LR LT).wp kr kp) K ?_ ?_ ?_
     ·exact ⟨LP, LL, L3, (0 : Int), MI, hS.to [0, 1] (by kernel_rfl) ⟨rfl, rfl, rfl, rfl, rfl, rfl, trivial⟩, Mp, Mt, Mx, hM⟩
     ·intro a w hI; obtain ⟨_, _, _, _, _, _, _, _, _, hM⟩ := hI; exact zr hM
     ·intro MG a w hI Nh MM
      obtain ⟨LI, LM, L4, LR, LT, hS, Mq, Mu, My, hM⟩ := hI
      rw [qe.l4] at hM
      refine wp_seq <| qk <| sM hS rfl fun hS => sM hS rfl fun hS => sB hS rfl fun hS => qz <| qy hS rfl hM (fun MS hM => ?_) (fun MS hM => ?_)
      ·refine wp_skip ?_
       refine qc <| xJ <| qk <| sM hS rfl fun hS => sM hS rfl fun hS => sM hS rfl fun hS => sM hS rfl fun hS => sB hS rfl fun hS => sM hS rfl fun hS => sM hS rfl fun hS => qK hS rfl Tryd.call100 (xT cq hcq hG K LM LR (qi (LR + LB)) LT LE LC LD LI L4 Mu Mq (hS.st.part 2 [0, 1] (by kernel_rfl)) (qx hM) (fun L8 Mf MC w hM M8 M9 Mk hst => qJ hS.ev hst.appF rfl fun hS => ?_))
       replace hS : Ss _ _ _ H [LE, MC] F _ _ := hS
       have M0 := Eq.trans Mk My
       replace hS := hS.re 0 (u := .slice LC LI.length LD) (v := .slice LC L8.length LD) rfl (by rw [Mk])
       replace hS := hS.re 36 (u := .slice LC LI.length LD) (v := .slice LC L8.length LD) rfl (by rw [Mk])
       refine qz <| qk <| sM hS rfl fun hS => sA hS rfl fun hS => qz <| zI <| sM hS rfl fun hS => sM hS rfl fun hS => sB hS rfl fun hS => sB hS rfl fun hS => zH (v := Value.int .i64) (x0 := (qi (LT + (qi ((2 : Int) * LB))))) hS (xv rfl) rfl fun MJ a w hz hS => ?_
       have hM := qB hz hM; clear hz
       refine zd <| zz (qc ?_)
       exact MM _ _ ⟨L8, Mf, MC, LT, MJ, hS.to [0, 1] (by kernel_rfl) ⟨rfl, rfl, rfl, rfl, rfl, rfl, trivial⟩, M8, M9, M0, hM⟩
      ·refine wp_exit ?_
       refine qC (qC (q9 (qc ?_)))
       exact MN _ _ ⟨LI, LM, L4, LR, hS.to [0, 1] (by kernel_rfl) ⟨rfl, rfl, rfl, rfl, rfl, trivial⟩, Mq, Mu, My, hM⟩
    ·intro a w hI
     obtain ⟨LJ, LN, L5, LV, hS, Mr, Mv, Mz, hM⟩ := hI
     rw [qe.j5] at hM
     refine wp_seq <| qk <| sM hS rfl fun hS => sM hS rfl fun hS => sB hS rfl fun hS => zH (v := Value.int .i64) (x0 := (qi (LV + LB))) hS (xv rfl) rfl fun Nc a w hz hS => ?_
     have hM := qB hz hM; clear hz
     refine qz <| qk <| sM hS rfl fun hS => sM hS rfl fun hS => sB hS rfl fun hS => qz <| qy hS rfl hM (fun MT hM => ?_) (fun MT hM => ?_)
     ·refine zI ?_
      refine sM hS rfl fun hS => sM hS rfl fun hS => sM hS rfl fun hS => sM hS rfl fun hS => sM hS rfl fun hS => qK hS rfl Tryd.call100 (xT cq hcq hG K LN LV Nc LF LE LC LD LJ L5 Mv Mr (hS.st.part 2 [0, 1] (by kernel_rfl)) (qx hM) (fun L9 Mg MD w hM Na Nb Ml hst => qJ hS.ev hst.appF rfl fun hS => ?_))
      replace hS : Ss _ _ _ H [LE, MD] F _ _ := hS
      have M3 := Eq.trans Ml Mz
      replace hS := hS.re 0 (u := .slice LC LJ.length LD) (v := .slice LC L9.length LD) rfl (by rw [Ml])
      replace hS := hS.re 55 (u := .slice LC LJ.length LD) (v := .slice LC L9.length LD) rfl (by rw [Ml])
      refine qz <| zI <| sM hS rfl fun hS => sB hS rfl fun hS => zH (v := Value.int .i64) (x0 := (qi (LB * (2 : Int)))) hS (xv rfl) rfl fun LX a w hz hS => ?_
      have hM := qB hz hM; clear hz
      refine zd <| zz (qc ?_)
      exact Mm _ _ ⟨L9, Mg, MD, LX, hS.to [0, 1] (by kernel_rfl) ⟨rfl, rfl, rfl, rfl, trivial⟩, Na, Nb, M3, hM⟩
     ·refine wp_skip ?_
      refine qc <| zI <| sM hS rfl fun hS => sB hS rfl fun hS => zH (v := Value.int .i64) (x0 := (qi (LB * (2 : Int)))) hS (xv rfl) rfl fun LY a w hz hS => ?_
      have hM := qB hz hM; clear hz
      refine zd <| zz (qc ?_)
      exact Mm _ _ ⟨LJ, LN, L5, LY, hS.to [0, 1] (by kernel_rfl) ⟨rfl, rfl, rfl, rfl, trivial⟩, Mr, Mv, Mz, hM⟩
   ·refine wp_exit ?_
    refine qC (qC (q9 ?_))
    exact vg (rs := []) hS rfl rfl (hret LP LL L3 _ (qU hM) Mp Mt Mx (hS.st.pick [0, 1] (by kernel_rfl)))
theorem xu (cq : Nat) (hcq : cq = 57 ∨ cq = 84) {H : xU} {F : List qm} {w : World} {R : Ending → World → Prop} {kr : (List qb) → Prop} {kp : Value → Prop} (hG : Gl H) (K : Nat) (LG : List qb) (LE : qm) (LC : Option Addr) (LD : Nat) (LB : List (z2 2)) (LK : qm) (LL : zN (ql LE) LG LB) (LP : xh 112 (z2.v (sz := 2)) 2 LC LB LD LK)
    (hS : St w H [LE, LK] F) (hm : (qT.m K LG).wp kr kp)
    (hret : ∀ (LH : List (z2 2)) (LO : (List qb)) (LN : qm) (w : World), kr LO → (xh 112 (z2.v (sz := 2)) 2 LC LH LD LN) → (zN (ql LE) LO LH) → (LH.length = LB.length) → St w H [LE, LN] F → R (.returned (.tuple ⟨[]⟩)) w) :
    Calls Tryd.prog 56 ⟨[.slice LC LB.length LD, vC cq [] []]⟩ w R := by
 refine enter Tryd.func56 rfl Tryd.ntmps56 rfl hS fun a w hS => ?_
 have hM := hm; clear hm
 rw [qT.m] at hM
 have LU : ∀ q ∈ LE, q ∈ LE := fun _ h => h
 have LQ : LB.length = LB.length := rfl
 refine zI <| sM hS rfl fun hS => sM hS rfl fun hS => sO hS (qY (v' := .int .i64 (LG.length : Int)) (ya rfl Tryd.runUnderlying110) (by rw [LL.len])) rfl fun hS => sM hS rfl fun hS => qK hS rfl Tryd.call81 (yE cq hcq hG K LG (LG.length : Int) LE LC LD LB LK LL LP (hS.st.part 2 [0, 1] (by kernel_rfl)) (qx hM) (fun LF LJ LM w hM LS LT LI hst => qJ hS.ev hst.appF rfl fun hS => ?_))
 replace hS : Ss _ _ _ H [LE, LM] F _ _ := hS
 have LR := Eq.trans LI LQ
 replace hS := hS.re 0 (u := .slice LC LB.length LD) (v := .slice LC LF.length LD) rfl (by rw [LI])
 replace hS := hS.re 4 (u := .slice LC LB.length LD) (v := .slice LC LF.length LD) rfl (by rw [LI])
 replace hS := hS.re 5 (u := .slice LC LB.length LD) (v := .slice LC LF.length LD) rfl (by rw [LI])
 refine zd ?_
 exact vg (rs := []) hS rfl rfl (hret LF LJ LM _ (qU hM) LS LT LR (hS.st.pick [0, 1] (by kernel_rfl)))
def vt (p : qm) (x : (List Int)) (vs : List Value) : Prop :=
  ∃ (A0 : Option Addr) (c0 : Nat), vs = [.slice A0 x.length c0] ∧ Pl p (ci .i64) A0 x ∧ x.length ≤ c0
theorem vt.mono {p p' : qm} (hs : ∀ q ∈ p, q ∈ p') {x : (List Int)} {vs : List Value} (h : vt p x vs) : vt p' x vs := by
  obtain ⟨A0, c0, h0, h1, h2⟩ := h
  exact ⟨A0, c0, h0, h1.mono hs, h2⟩
theorem vh {H : xU} {F : List qm} {w : World} {R : Ending → World → Prop} {kr : Unit → Prop} {kp : Value → Prop} (hG : Gl H) (K : Nat) (LB : Int)
    (hS : St w H [] F) (hm : (xL.m K LB).wp kr kp)
    (hret : ∀ (LC : Option Addr) (LD : Nat) (LE : qm) (w : World), kr () → (xh 3 (ci .i64) 1 LC ([] : List Int) LD LE) → St w H [LE] F → R (.returned (.slice LC ([] : List Int).length LD)) w)
    (hpan : ∀ v w, kp v → St w H [] F → R (.panicked [⟨v, false, false⟩]) w) :
    Calls Tryd.prog 102 ⟨[.slice none 0 0, .int .i64 LB]⟩ w R := by
 refine enter Tryd.func102 rfl Tryd.ntmps102 rfl hS fun a w hS => ?_
 have hM := hm; clear hm
 rw [xL.m] at hM
 refine qk <| sA hS rfl fun hS => ?_
 obtain ⟨LS, LQ, hS⟩ := hS.nilV 3 (ci .i64) 1
 refine qz <| wp_seq <| qk <| sM hS rfl fun hS => sB hS rfl fun hS => qz <| qy hS rfl hM (fun LI hM => ?_) (fun LI hM => ?_)
 ·refine zI ?_
  refine sO hS (GQ rfl Tryd.runUnderlying9 rfl) rfl fun hS => Xg hS rfl <| xf ?_
  exact ⟨hS.ev.defs, hpan _ _ (Jo hM) hS.st.frame⟩
 ·refine wp_skip ?_
  refine qc <| wp_seq <| qk <| sM hS rfl fun hS => sM hS rfl fun hS => sO hS (BH rfl Tryd.runUnderlying45) rfl fun hS => sM hS rfl fun hS => sO hS (ya rfl Tryd.runUnderlying45) rfl fun hS => sB hS rfl fun hS => sB hS rfl fun hS => zH (v := Value.int .i64) (x0 := (qi (LB - (qi ((0 : Int) - (0 : Int)))))) hS (xv rfl) rfl fun LR a w hz hS => ?_
  have hM := qB hz hM; clear hz
  refine qz <| qk <| sM hS rfl fun hS => sB hS rfl fun hS => qz <| qy hS rfl hM (fun LJ hM => ?_) (fun LJ hM => ?_)
  ·refine zI ?_
   refine sM hS rfl fun hS => sM hS rfl fun hS => sO hS (BH rfl Tryd.runUnderlying45) rfl fun hS => sO hS (Le rfl Tryd.runUnderlying45 Tryd.sizeOf3 (BR rfl)) rfl fun hS => sM hS rfl fun hS => ?_
   obtain ⟨LL, hM⟩ := qE hM
   refine G2 (g := (ci .i64)) hS rfl rfl Tryd.runUnderlying45 Tryd.runUnderlying3 X.el3 rfl rfl LL rfl fun w LM LN LO LG LK LF hS => sM hS rfl fun hS => sO hS (ya rfl Tryd.runUnderlying45) rfl fun hS => sO hS (Ld rfl Tryd.runUnderlying45 Tryd.sizeOf3 (fun _ => BR rfl) LK LF) rfl fun hS => sA hS rfl fun hS => qz <| qk <| sM hS rfl fun hS => sA hS rfl fun hS => qz <| wp_ret ?_
   exact zm (rs := [4]) hS rfl rfl (hret LM LN LO _ (qU hM) LG (hS.st.pick [0] (by kernel_rfl)))
  ·refine wp_skip ?_
   refine qc <| qk <| sM hS rfl fun hS => sA hS rfl fun hS => ?_
   obtain ⟨LP, LH, hS⟩ := hS.nilV 3 (ci .i64) 1
   refine qz <| wp_ret ?_
   exact zm (rs := [4]) hS rfl rfl (hret none (0) LP _ (qU hM) LH (hS.st.pick [0] (by kernel_rfl)))
theorem v5 {H : xU} {F : List qm} {w : World} {R : Ending → World → Prop} {kr : (List Int) → Prop} {kp : Value → Prop} (hG : Gl H) (K : Nat) (LB : List (List Int)) (LG : qm) (LI : Option Addr) (LJ : Nat) (LD : List (z2 1)) (LE : zN (vt LG) LB LD) (LM : Pl LG (z2.v (sz := 1)) LI LD) (Ml : LD.length ≤ LJ)
    (hS : St w H [LG] F) (hm : (qS.m K LB).wp kr kp)
    (hret : ∀ (LV : Option Addr) (LW : Nat) (LU : (List Int)) (LY : qm) (w : World), kr LU → (xh 3 (ci .i64) 1 LV LU LW LY) → St w H [LG, LY] F → R (.returned (.slice LV LU.length LW)) w)
    (hpan : ∀ v w, kp v → St w H [] F → R (.panicked [⟨v, false, false⟩]) w) :
    Calls Tryd.prog 85 ⟨[.slice LI LD.length LJ]⟩ w R := by
 refine enter Tryd.func85 rfl Tryd.ntmps85 rfl hS fun a w hS => ?_
 have hM := hm; clear hm
 rw [qS.m] at hM
 have Mq : ∀ q ∈ LG, q ∈ LG := fun _ h => h
 refine qk <| sA hS rfl fun hS => ?_
 obtain ⟨My, Mk, hS⟩ := hS.nilV 3 (ci .i64) 1
 refine qz <| qk <| sA hS rfl fun hS => qz <| zx (fun a w => ∃ (LH : Int), Ss 36 [] [(0, .slice LI LD.length LJ), (3, .int .i64 LH)] H [LG] F a w ∧ (qS.j2 K LB LH).wp kr kp) (fun Mu L3 => ?_) ?_
 ·refine wp_seq ?_
  refine zI <| sM hS rfl fun hS => sO hS (qY (v' := .int .i64 (LB.length : Int)) (ya rfl Tryd.runUnderlying167) (by rw [LE.len])) rfl fun hS => sM hS rfl fun hS => qz <| xJ <| zv (fun LZ a w => ∃ (LF : Int) (LK : Int), Ss 36 [] [(0, .slice LI LD.length LJ), (3, .int .i64 LF), (9, .slice LI LD.length LJ), (10, .int .i64 (LB.length : Int)), (11, .int .i64 LK)] H [LG] F a w ∧ (qS.l1 K LB LZ LF LK).wp kr kp) K ?_ ?_ ?_
  ·exact ⟨(0 : Int), (0 : Int), hS.to [1] (by kernel_rfl) ⟨rfl, rfl, rfl, rfl, rfl, trivial⟩, hM⟩
  ·intro a w hI; obtain ⟨_, _, _, hM⟩ := hI; exact zr hM
  ·intro LZ a w hI Mt L1
   obtain ⟨LF, LK, hS, hM⟩ := hI
   rw [qS.l1] at hM
   refine qk <| sB hS rfl fun hS => qz <| wp_seq <| qy hS rfl hM (fun L6 hM => ?_) (fun L6 hM => ?_)
   ·refine wp_skip ?_
    refine qc <| wp_seq <| xJ <| wp_seq <| zI ?_
    obtain ⟨LN, hM⟩ := qE hM
    refine sO hS (x6 rfl rfl Tryd.runUnderlying167 Tryd.sizeOf45 (LM.rd (i := 0) rfl) z2.len rfl (LE.inb LN)) rfl fun hS => ?_
    obtain ⟨Mr, Mw, Mb, Mp, Mm⟩ := LE.get LN
    refine sO hS (x9 rfl (LM.rd (i := 0) rfl) z2.len (LE.inb LN) (by rw [show z2.v (rd LD LK) = _ from Mb]; rfl) Tryd.isAgg45) rfl fun hS => sA hS rfl fun hS => qz <| qk <| sM hS rfl fun hS => sM hS rfl fun hS => sO hS (ya rfl Tryd.runUnderlying45) rfl fun hS => sB hS rfl fun hS => zH (v := Value.int .i64) (x0 := (qi (LF + ((rd LB LK).length : Int)))) hS (xv rfl) rfl fun LT a w hz hS => ?_
    have hM := qB hz hM; clear hz
    refine qz <| qk <| sM hS rfl fun hS => sB hS rfl fun hS => qz <| qy hS rfl hM (fun L7 hM => ?_) (fun L7 hM => ?_)
    ·refine zI ?_
     refine sO hS (GQ rfl Tryd.runUnderlying9 rfl) rfl fun hS => Xg hS rfl <| jS (xf (xf (jS (xf ?_))))
     exact ⟨hS.ev.defs, hpan _ _ (Jo hM) hS.st.frame⟩
    ·refine wp_skip ?_
     refine zz (qc ?_)
     refine zI <| sB hS rfl fun hS => sM hS rfl fun hS => zd <| qc ?_
     exact L1 _ _ ⟨LT, (qi (LK + (1 : Int))), hS.to [0] (by kernel_rfl) ⟨rfl, rfl, rfl, rfl, rfl, trivial⟩, hM⟩
   ·refine wp_exit ?_
    refine qC (qC (q9 (qc ?_)))
    exact L3 _ _ ⟨LF, hS.to [0] (by kernel_rfl) ⟨rfl, rfl, trivial⟩, hM⟩
 ·intro a w hI
  obtain ⟨LH, hS, hM⟩ := hI
  rw [qS.j2] at hM
  refine qk <| sM hS rfl fun hS => qK hS rfl Tryd.call102 (vh hG K LH (hS.st.part 0 [0] (by kernel_rfl)) (qx hM) (fun Me Mg LX w hM Mj hst => qJ hS.ev hst.appF rfl fun hS => ?_) (fun v w hk hst => vr (xf (⟨hS.ev.defs, hpan _ _ hk hst.appF.frame⟩))))
  replace hS : Ss _ _ _ H [LX, LG] F _ _ := hS
  refine sA hS rfl fun hS => qz <| wp_seq <| qk <| sM hS rfl fun hS => sO hS (qY (v' := .int .i64 (LB.length : Int)) (ya rfl Tryd.runUnderlying167) (by rw [LE.len])) rfl fun hS => sM hS rfl fun hS => qz <| xJ <| zv (fun L0 a w => ∃ (LP : Option Addr) (LQ : Nat) (LC : (List Int)) (LR : qm) (LL : Int), Ss 36 [] [(6, .slice LP LC.length LQ), (25, .slice LI LD.length LJ), (26, .int .i64 (LB.length : Int)), (27, .int .i64 LL)] H [LG, LR] F a w ∧ (xh 3 (ci .i64) 1 LP LC LQ LR) ∧ (qS.l3 K LB L0 LC LL).wp kr kp) K ?_ ?_ ?_
  ·exact ⟨Me, Mg, ([] : List Int), LX, (0 : Int), hS.to [1, 0] (by kernel_rfl) ⟨rfl, rfl, rfl, rfl, trivial⟩, Mj, hM⟩
  ·intro a w hI; obtain ⟨_, _, _, _, _, _, _, hM⟩ := hI; exact zr hM
  ·intro L0 a w hI Mv L4
   obtain ⟨LP, LQ, LC, LR, LL, hS, LS, hM⟩ := hI
   rw [qS.l3] at hM
   refine qk <| sB hS rfl fun hS => qz <| wp_seq <| qy hS rfl hM (fun L8 hM => ?_) (fun L8 hM => ?_)
   ·refine wp_skip ?_
    refine qc <| wp_seq <| xJ <| wp_seq <| zI ?_
    obtain ⟨LO, hM⟩ := qE hM
    refine sO hS (x6 rfl rfl Tryd.runUnderlying167 Tryd.sizeOf45 (LM.rd (i := 0) rfl) z2.len rfl (LE.inb LO)) rfl fun hS => ?_
    obtain ⟨Ms, Mx, Mc, Ma, Mn⟩ := LE.get LO
    refine sO hS (x9 rfl (LM.rd (i := 0) rfl) z2.len (LE.inb LO) (by rw [show z2.v (rd LD LL) = _ from Mc]; rfl) Tryd.isAgg45) rfl fun hS => sA hS rfl fun hS => qz <| zI <| sM hS rfl fun hS => sM hS rfl fun hS => ?_
    obtain ⟨L9, hM⟩ := qE hM
    refine Yk (ys := (rd LB LL)) 1 hS rfl rfl LS rfl (Ma.rd (i := 0) rfl) Tryd.runUnderlying45 Tryd.runUnderlying45 X.el3 (fun _ => rfl) rfl xG L9 rfl fun Md w Mf Mh Mi hz L5 hS => ?_
    have hM := qB hz hM; clear hz
    refine sA hS rfl fun hS => zd <| zz (qc ?_)
    refine zI <| sB hS rfl fun hS => sM hS rfl fun hS => zd <| qc ?_
    exact L4 _ _ ⟨Mf, Mh, Md, Mi, (qi (LL + (1 : Int))), hS.to [0, 1] (by kernel_rfl) ⟨rfl, rfl, rfl, rfl, trivial⟩, L5, hM⟩
   ·refine wp_exit ?_
    refine qC (qC (q9 (qc ?_)))
    refine qk <| sM hS rfl fun hS => sA hS rfl fun hS => qz <| wp_ret ?_
    exact zm (rs := [2]) hS rfl rfl (hret LP LQ LC LR _ (qU hM) LS (hS.st.pick [0, 1] (by kernel_rfl)))
theorem YZ {H : xU} {F : List qm} {w : World} {R : Ending → World → Prop} {kr : (List qb) → Prop} {kp : Value → Prop} (hG : Gl H) (K : Nat) (LC : List qb) (LS : qm) (LD : Option Addr) (LH : Nat) (LE : List (z2 2)) (ML : zN (ql LS) LC LE) (MJ : Pl LS (z2.v (sz := 2)) LD LE) (MC : LE.length ≤ LH)
    (hS : St w H [LS] F) (hm : (x4.m K LC).wp kr kp)
    (hret : ∀ (Mp : qm) (Mq : Option Addr) (Mr : Nat) (Me : List (z2 2)) (Mw : (List qb)) (Ms : qm) (w : World), kr Mw → (∀ q ∈ LS, q ∈ Mp) → (xh 112 (z2.v (sz := 2)) 2 Mq Me Mr Ms) → (zN (ql Mp) Mw Me) → St w H [Mp, Ms] F → R (.returned (.slice Mq Me.length Mr)) w)
    (hpan : ∀ v w, kp v → St w H [] F → R (.panicked [⟨v, false, false⟩]) w) :
    Calls Tryd.prog 60 ⟨[.slice LD LE.length LH]⟩ w R := by
 refine enter Tryd.func60 rfl Tryd.ntmps60 rfl hS fun a w hS => ?_
 have hM := hm; clear hm
 rw [x4.m] at hM
 have MN : ∀ q ∈ LS, q ∈ LS := fun _ h => h
 refine qk <| sA hS rfl fun hS => ?_
 obtain ⟨Na, MX, hS⟩ := hS.nilV 112 (z2.v (sz := 2)) 2
 have M4 : zN (ql LS) ([] : List qb) ([] : List (z2 2)) := zN.nil
 refine qz <| qk <| sA hS rfl fun hS => ?_
 obtain ⟨MT, My, hS⟩ := hS.nilV 112 (z2.v (sz := 2)) 2
 have MM : zN (ql LS) ([] : List qb) ([] : List (z2 2)) := zN.nil
 refine qz <| wp_seq <| qk <| sA hS rfl fun hS => qz <| xJ <| zv (fun Mu a w => ∃ (LT : qm) (LQ : Option Addr) (LR : Nat) (LK : List (z2 2)) (L0 : (List qb)) (Ma : qm) (LB : Int), Ss 42 [] [(0, .slice LD LE.length LH), (3, .slice LQ LK.length LR), (4, .int .i64 LB)] H [LT, Ma] F a w ∧ (∀ q ∈ LS, q ∈ LT) ∧ (zN (ql LT) LC LE) ∧ (Pl LT (z2.v (sz := 2)) LD LE) ∧ (LE.length ≤ LH) ∧ (xh 112 (z2.v (sz := 2)) 2 LQ LK LR Ma) ∧ (zN (ql LT) L0 LK) ∧ (x4.l1 K LC Mu L0 LB).wp kr kp) K ?_ ?_ ?_
 ·exact ⟨LS, none, 0, ([] : List (z2 2)), ([] : List qb), MT, (0 : Int), hS.to [2, 0] (by kernel_rfl) ⟨rfl, rfl, rfl, trivial⟩, MN, ML, MJ, MC, My, MM, hM⟩
 ·intro a w hI; obtain ⟨_, _, _, _, _, _, _, _, _, _, _, _, _, _, hM⟩ := hI; exact zr hM
 ·intro Mu a w hI M7 Mx
  obtain ⟨LT, LQ, LR, LK, L0, Ma, LB, hS, L1, LF, LG, MD, Mj, LU, hM⟩ := hI
  rw [x4.l1] at hM
  refine wp_seq <| qk <| sM hS rfl fun hS => sB hS rfl fun hS => sM hS rfl fun hS => sO hS (qY (v' := .int .i64 (LC.length : Int)) (ya rfl Tryd.runUnderlying110) (by rw [LF.len])) rfl fun hS => sB hS rfl fun hS => qz <| qy hS rfl hM (fun MB hM => ?_) (fun MB hM => ?_)
  ·refine wp_skip ?_
   refine qc <| wp_seq <| xJ ?_
   obtain ⟨LI, hM⟩ := qE hM
   obtain ⟨M5, M8, Mc, M0, MY⟩ := LF.get LI
   obtain ⟨LJ, hM⟩ := qE hM
   obtain ⟨M6, M9, Md, M3, MZ⟩ := LF.get LJ
   obtain ⟨LW, LY, MQ, L4, ME⟩ := LF.get LI
   obtain ⟨LX, LZ, MR, L5, MF⟩ := LF.get LJ
   refine zh (vals := [some (.slice LQ LK.length LR), some (.slice LD LE.length LH), some (.int .i64 LB), some (xz LD (Int.toNat LB * 2)), some (xz LD (Int.toNat LB * 2 + 0)), some (.int .i64 ((rd LC LB).often_)), some (.slice LD LE.length LH), some (.int .i64 LB), some (.int .i64 (qi (LB + (1 : Int)))), some (xz LD (Int.toNat (qi (LB + (1 : Int))) * 2)), some (xz LD (Int.toNat (qi (LB + (1 : Int))) * 2 + 0)), some (.int .i64 ((rd LC (qi (LB + (1 : Int)))).often_)), some (.int .i64 (qi ((rd LC LB).often_ + (rd LC (qi (LB + (1 : Int)))).often_))), some (.slice LD LE.length LH), some (.int .i64 LB), some (xz LD (Int.toNat LB * 2)), some (xz LD (Int.toNat LB * 2 + 1)), some (.slice LW ((rd LC LB).symbols_).length LY), some (.slice LD LE.length LH), some (.int .i64 LB), some (.int .i64 (qi (LB + (1 : Int)))), some (xz LD (Int.toNat (qi (LB + (1 : Int))) * 2)), some (xz LD (Int.toNat (qi (LB + (1 : Int))) * 2 + 1)), some (.slice LX ((rd LC (qi (LB + (1 : Int)))).symbols_).length LZ), none, none, none, none, none, none]) hS xH rfl ?_
   intro l w ho hcl hA hst
   refine jQ hA hst ho hcl xQ xI 24 [0, 1, 2, 3, 4, 5, 6, 7, 8, 9, 10, 11, 12, 13, 14, 15, 16, 17, 18, 19, 20, 21, 22, 23] rfl rfl rfl rfl rfl (by exact ⟨nM rfl, nM rfl, nM rfl, nQ rfl (by exact qY (x6 rfl rfl Tryd.runUnderlying110 Tryd.sizeOf112 (LG.rd (i := 0) rfl) z2.len rfl (LF.inb LI)) rfl), nQ rfl (by exact qY (YV rfl (LG.rd (i := 0) rfl) z2.len rfl (LF.inb LI) Tryd.runUnderlying112 rfl Tryd.sizeOf3 rfl) rfl), nQ rfl (by exact qY (BB 0 rfl (LG.rd (i := 0) rfl) z2.len (LF.inb LI) (by rw [show z2.v (rd LE LB) = _ from Mc]; rfl) Tryd.isAgg3) rfl), nM rfl, nM rfl, nB rfl, nQ rfl (by exact qY (x6 rfl rfl Tryd.runUnderlying110 Tryd.sizeOf112 (LG.rd (i := 0) rfl) z2.len rfl (LF.inb LJ)) rfl), nQ rfl (by exact qY (YV rfl (LG.rd (i := 0) rfl) z2.len rfl (LF.inb LJ) Tryd.runUnderlying112 rfl Tryd.sizeOf3 rfl) rfl), nQ rfl (by exact qY (BB 0 rfl (LG.rd (i := 0) rfl) z2.len (LF.inb LJ) (by rw [show z2.v (rd LE (qi (LB + (1 : Int)))) = _ from Md]; rfl) Tryd.isAgg3) rfl), nB rfl, nM rfl, nM rfl, nQ rfl (by exact qY (x6 rfl rfl Tryd.runUnderlying110 Tryd.sizeOf112 (LG.rd (i := 0) rfl) z2.len rfl (LF.inb LI)) rfl), nQ rfl (by exact qY (YV rfl (LG.rd (i := 0) rfl) z2.len rfl (LF.inb LI) Tryd.runUnderlying112 rfl Tryd.sizeOf45 rfl) rfl), nQ rfl (by exact qY (BB 1 rfl (LG.rd (i := 0) rfl) z2.len (LF.inb LI) (by rw [show z2.v (rd LE LB) = _ from MQ]; rfl) Tryd.isAgg45) rfl), nM rfl, nM rfl, nB rfl, nQ rfl (by exact qY (x6 rfl rfl Tryd.runUnderlying110 Tryd.sizeOf112 (LG.rd (i := 0) rfl) z2.len rfl (LF.inb LJ)) rfl), nQ rfl (by exact qY (YV rfl (LG.rd (i := 0) rfl) z2.len rfl (LF.inb LJ) Tryd.runUnderlying112 rfl Tryd.sizeOf45 rfl) rfl), nQ rfl (by exact qY (BB 1 rfl (LG.rd (i := 0) rfl) z2.len (LF.inb LJ) (by rw [show z2.v (rd LE (qi (LB + (1 : Int)))) = _ from MR]; rfl) Tryd.isAgg45) rfl), trivial⟩) fun D l a w ho hcl hav hpre hm hE hk hA hst => ?_
   have hS := (Ss.mk hE hst).env2 (e' := [(29, .slice LW ((rd LC LB).symbols_).length LY), (35, .slice LX ((rd LC (qi (LB + (1 : Int)))).symbols_).length LZ)]) ⟨rfl, rfl, trivial⟩
   refine zi rfl ?_
   obtain ⟨LP, hrw⟩ : ∃ r, r = ([(⟨[.slice LW ((rd LC LB).symbols_).length LY], by simp, by simp [Value.oneCell']⟩ : z2 1), (⟨[.slice LX ((rd LC (qi (LB + (1 : Int)))).symbols_).length LZ], by simp, by simp [Value.oneCell']⟩ : z2 1)] : List (z2 1)) := ⟨_, rfl⟩
   have L6 : zN (vt LT) ([(rd LC LB).symbols_, (rd LC (qi (LB + (1 : Int)))).symbols_] : List (List Int)) LP := by rw [hrw]; exact (zN.cons (show vt LT _ _ from ⟨LW, LY, rfl, L4, ME⟩) (zN.cons (show vt LT _ _ from ⟨LX, LZ, rfl, L5, MF⟩) zN.nil))
   refine Xs (g := (z2.v (sz := 1))) LP [.slice LW ((rd LC LB).symbols_).length LY, .slice LX ((rd LC (qi (LB + (1 : Int)))).symbols_).length LZ] hS Tryd.runUnderlying167 Tryd.sizeOf45 X.el45 rfl rfl rfl (by simp [Value.cells]) (by rw [hrw]; rfl) (by rw [hrw]; rfl) rfl rfl rfl fun w L7 L8 Nb Mk hS => ?_
   clear hrw
   refine qz ?_
   replace hst := hS.st
   obtain ⟨hcl, hmust, hav2, hA⟩ := dn (vals' := [some (.slice LQ LK.length LR), some (.slice LD LE.length LH), some (.int .i64 LB), some (xz LD (Int.toNat LB * 2)), some (xz LD (Int.toNat LB * 2 + 0)), some (.int .i64 ((rd LC LB).often_)), some (.slice LD LE.length LH), some (.int .i64 LB), some (.int .i64 (qi (LB + (1 : Int)))), some (xz LD (Int.toNat (qi (LB + (1 : Int))) * 2)), some (xz LD (Int.toNat (qi (LB + (1 : Int))) * 2 + 0)), some (.int .i64 ((rd LC (qi (LB + (1 : Int)))).often_)), some (.int .i64 (qi ((rd LC LB).often_ + (rd LC (qi (LB + (1 : Int)))).often_))), some (.slice LD LE.length LH), some (.int .i64 LB), some (xz LD (Int.toNat LB * 2)), some (xz LD (Int.toNat LB * 2 + 1)), some (.slice LW ((rd LC LB).symbols_).length LY), some (.slice LD LE.length LH), some (.int .i64 LB), some (.int .i64 (qi (LB + (1 : Int)))), some (xz LD (Int.toNat (qi (LB + (1 : Int))) * 2)), some (xz LD (Int.toNat (qi (LB + (1 : Int))) * 2 + 1)), some (.slice LX ((rd LC (qi (LB + (1 : Int)))).symbols_).length LZ), some (.slice L7 LP.length L8), none, none, none, none, none]) 24 [(17, 24), (23, 24), (16, 17), (22, 23), (15, 16), (21, 22), (13, 15), (14, 15), (18, 21), (20, 21), (19, 20)] hA hcl hav hm hpre hk rfl rfl rfl rfl rfl rfl rfl
   clear hm hav
   refine jQ hA hst ho hcl hav2 hmust 25 [0, 1, 2, 3, 4, 5, 6, 7, 8, 9, 10, 11, 12] rfl rfl rfl rfl rfl (by exact ⟨nM rfl, nM rfl, nM rfl, nQ rfl (by exact qY (x6 rfl rfl Tryd.runUnderlying110 Tryd.sizeOf112 (LG.rd (i := 1) rfl) z2.len rfl (LF.inb LI)) rfl), nQ rfl (by exact qY (YV rfl (LG.rd (i := 1) rfl) z2.len rfl (LF.inb LI) Tryd.runUnderlying112 rfl Tryd.sizeOf3 rfl) rfl), nQ rfl (by exact qY (BB 0 rfl (LG.rd (i := 1) rfl) z2.len (LF.inb LI) (by rw [show z2.v (rd LE LB) = _ from Mc]; rfl) Tryd.isAgg3) rfl), nM rfl, nM rfl, nB rfl, nQ rfl (by exact qY (x6 rfl rfl Tryd.runUnderlying110 Tryd.sizeOf112 (LG.rd (i := 1) rfl) z2.len rfl (LF.inb LJ)) rfl), nQ rfl (by exact qY (YV rfl (LG.rd (i := 1) rfl) z2.len rfl (LF.inb LJ) Tryd.runUnderlying112 rfl Tryd.sizeOf3 rfl) rfl), nQ rfl (by exact qY (BB 0 rfl (LG.rd (i := 1) rfl) z2.len (LF.inb LJ) (by rw [show z2.v (rd LE (qi (LB + (1 : Int)))) = _ from Md]; rfl) Tryd.isAgg3) rfl), nB rfl, trivial⟩) fun D l a w ho hcl hav hpre hm hE hk hA hst => ?_
   have hS := (Ss.mk hE hst).env2 (e' := [(36, .slice L7 LP.length L8)]) ⟨rfl, trivial⟩
   refine zi rfl ?_
   replace hS := hS.front [0, 1, 2] (by kernel_rfl)
   obtain ⟨Mv, MO, LV, hS⟩ := hS.poolF
   have MG := Mk.cap z2.len rfl
   have Mb := Mk.pl.mono MO
   replace LG := LG.mono LV
   replace L4 := L4.mono LV
   replace L5 := L5.mono LV
   replace LF := zN.mono (fun _ _ h => ql.mono LV h) LF
   replace LU := zN.mono (fun _ _ h => ql.mono LV h) LU
   replace L6 := zN.mono (fun _ _ h => vt.mono LV h) L6
   replace L1 := fun q h => LV q (L1 q h)
   refine qK hS rfl Tryd.call85 (v5 hG K ([(rd LC LB).symbols_, (rd LC (qi (LB + (1 : Int)))).symbols_] : List (List Int)) Mv L7 L8 LP L6 Mb MG (hS.st.part 1 [0, 1] (by kernel_rfl)) (qx hM) (fun LM LN LL MU w hM Mt hst => qJ hS.ev hst.appF rfl fun hS => ?_) (fun v w hk hst => vr (xf (jS (xf (xf (jS (xf (⟨hS.ev.defs, hpan _ _ hk hst.appF.frame⟩)))))))))
   replace hS : Ss _ _ _ H [Mv, MU, Ma] F _ _ := hS
   refine qz ?_
   replace hst := hS.st
   obtain ⟨hcl, hmust, hav2, hA⟩ := dn (vals' := [some (.slice LQ LK.length LR), some (.slice LD LE.length LH), some (.int .i64 LB), some (xz LD (Int.toNat LB * 2)), some (xz LD (Int.toNat LB * 2 + 0)), some (.int .i64 ((rd LC LB).often_)), some (.slice LD LE.length LH), some (.int .i64 LB), some (.int .i64 (qi (LB + (1 : Int)))), some (xz LD (Int.toNat (qi (LB + (1 : Int))) * 2)), some (xz LD (Int.toNat (qi (LB + (1 : Int))) * 2 + 0)), some (.int .i64 ((rd LC (qi (LB + (1 : Int)))).often_)), some (.int .i64 (qi ((rd LC LB).often_ + (rd LC (qi (LB + (1 : Int)))).often_))), some (.slice LD LE.length LH), some (.int .i64 LB), some (xz LD (Int.toNat LB * 2)), some (xz LD (Int.toNat LB * 2 + 1)), some (.slice LW ((rd LC LB).symbols_).length LY), some (.slice LD LE.length LH), some (.int .i64 LB), some (.int .i64 (qi (LB + (1 : Int)))), some (xz LD (Int.toNat (qi (LB + (1 : Int))) * 2)), some (xz LD (Int.toNat (qi (LB + (1 : Int))) * 2 + 1)), some (.slice LX ((rd LC (qi (LB + (1 : Int)))).symbols_).length LZ), some (.slice L7 LP.length L8), some (.slice LM LL.length LN), some (.agg ⟨[.int .i64 (qi ((rd LC LB).often_ + (rd LC (qi (LB + (1 : Int)))).often_)), .slice LM LL.length LN]⟩), none, none, none]) 25 [(24, 25), (17, 24), (23, 24), (16, 17), (22, 23), (15, 16), (21, 22), (13, 15), (14, 15), (18, 21), (20, 21), (19, 20)] hA hcl hav hm hpre hk rfl rfl rfl rfl rfl rfl rfl
   clear hm hav
   refine jQ hA hst ho hcl hav2 hmust 27 [0, 1, 2, 3, 4, 5, 6, 7, 8, 9, 10, 11, 12, 26] rfl rfl rfl rfl rfl (by exact ⟨nM rfl, nM rfl, nM rfl, nQ rfl (by exact qY (x6 rfl rfl Tryd.runUnderlying110 Tryd.sizeOf112 (LG.rd (i := 0) rfl) z2.len rfl (LF.inb LI)) rfl), nQ rfl (by exact qY (YV rfl (LG.rd (i := 0) rfl) z2.len rfl (LF.inb LI) Tryd.runUnderlying112 rfl Tryd.sizeOf3 rfl) rfl), nQ rfl (by exact qY (BB 0 rfl (LG.rd (i := 0) rfl) z2.len (LF.inb LI) (by rw [show z2.v (rd LE LB) = _ from Mc]; rfl) Tryd.isAgg3) rfl), nM rfl, nM rfl, nB rfl, nQ rfl (by exact qY (x6 rfl rfl Tryd.runUnderlying110 Tryd.sizeOf112 (LG.rd (i := 0) rfl) z2.len rfl (LF.inb LJ)) rfl), nQ rfl (by exact qY (YV rfl (LG.rd (i := 0) rfl) z2.len rfl (LF.inb LJ) Tryd.runUnderlying112 rfl Tryd.sizeOf3 rfl) rfl), nQ rfl (by exact qY (BB 0 rfl (LG.rd (i := 0) rfl) z2.len (LF.inb LJ) (by rw [show z2.v (rd LE (qi (LB + (1 : Int)))) = _ from Md]; rfl) Tryd.isAgg3) rfl), nB rfl, nQ rfl (by exact qY (Zq ([.int .i64 (qi ((rd LC LB).often_ + (rd LC (qi (LB + (1 : Int)))).often_)), .slice LM LL.length LN]) [(0, 1), (1, 1)] Tryd.zeroValue112 Tryd.runUnderlying112 (by intro w; simp [Tryd.sizeOf3, Tryd.sizeOf45]) rfl rfl) rfl), trivial⟩) fun D l a w ho hcl hav hpre hm hE hk hA hst => ?_
   have hS := (Ss.mk hE hst).env2 (e' := [(38, .agg ⟨[.int .i64 (qi ((rd LC LB).often_ + (rd LC (qi (LB + (1 : Int)))).often_)), .slice LM LL.length LN]⟩)]) ⟨rfl, trivial⟩
   refine zi rfl ?_
   replace hS := hS.front [1, 0, 2] (by kernel_rfl)
   obtain ⟨Mn, MP, LO, hS⟩ := hS.poolF
   have MH := Mt.cap (fun _ => rfl) rfl
   have MK := Mt.pl.mono MP
   replace LG := LG.mono LO
   replace L4 := L4.mono LO
   replace L5 := L5.mono LO
   replace Mb := Mb.mono LO
   replace LF := zN.mono (fun _ _ h => ql.mono LO h) LF
   replace LU := zN.mono (fun _ _ h => ql.mono LO h) LU
   replace L6 := zN.mono (fun _ _ h => vt.mono LO h) L6
   replace L1 := fun q h => LO q (L1 q h)
   obtain ⟨L3, hrw⟩ : ∃ r, r = ([(⟨[.int .i64 (qi ((rd LC LB).often_ + (rd LC (qi (LB + (1 : Int)))).often_)), .slice LM LL.length LN], by simp, by simp [Value.oneCell']⟩ : z2 2)] : List (z2 2)) := ⟨_, rfl⟩
   have Ml : zN (ql Mn) ([(qb.mk (qi ((rd LC LB).often_ + (rd LC (qi (LB + (1 : Int)))).often_)) LL)] : List qb) L3 := by rw [hrw]; exact (zN.cons (show ql Mn _ _ from ⟨LM, LN, rfl, MK, MH⟩) zN.nil)
   refine Xs (g := (z2.v (sz := 2))) L3 [.agg ⟨[.int .i64 (qi ((rd LC LB).often_ + (rd LC (qi (LB + (1 : Int)))).often_)), .slice LM LL.length LN]⟩] hS Tryd.runUnderlying110 Tryd.sizeOf112 X.el112 rfl rfl rfl (by simp [Value.cells]) (by rw [hrw]; rfl) (by rw [hrw]; rfl) rfl rfl rfl fun w Mh Mi Nc Mz hS => ?_
   clear hrw
   refine qz ?_
   replace hst := hS.st
   obtain ⟨hcl, hmust, hav2, hA⟩ := dn (vals' := [some (.slice LQ LK.length LR), some (.slice LD LE.length LH), some (.int .i64 LB), some (xz LD (Int.toNat LB * 2)), some (xz LD (Int.toNat LB * 2 + 0)), some (.int .i64 ((rd LC LB).often_)), some (.slice LD LE.length LH), some (.int .i64 LB), some (.int .i64 (qi (LB + (1 : Int)))), some (xz LD (Int.toNat (qi (LB + (1 : Int))) * 2)), some (xz LD (Int.toNat (qi (LB + (1 : Int))) * 2 + 0)), some (.int .i64 ((rd LC (qi (LB + (1 : Int)))).often_)), some (.int .i64 (qi ((rd LC LB).often_ + (rd LC (qi (LB + (1 : Int)))).often_))), some (.slice LD LE.length LH), some (.int .i64 LB), some (xz LD (Int.toNat LB * 2)), some (xz LD (Int.toNat LB * 2 + 1)), some (.slice LW ((rd LC LB).symbols_).length LY), some (.slice LD LE.length LH), some (.int .i64 LB), some (.int .i64 (qi (LB + (1 : Int)))), some (xz LD (Int.toNat (qi (LB + (1 : Int))) * 2)), some (xz LD (Int.toNat (qi (LB + (1 : Int))) * 2 + 1)), some (.slice LX ((rd LC (qi (LB + (1 : Int)))).symbols_).length LZ), some (.slice L7 LP.length L8), some (.slice LM LL.length LN), some (.agg ⟨[.int .i64 (qi ((rd LC LB).often_ + (rd LC (qi (LB + (1 : Int)))).often_)), .slice LM LL.length LN]⟩), some (.slice Mh L3.length Mi), none, none]) 27 [(26, 27), (12, 26), (25, 26), (5, 12), (11, 12), (24, 25), (4, 5), (10, 11), (17, 24), (23, 24), (3, 4), (9, 10), (16, 17), (22, 23), (1, 3), (2, 3), (6, 9), (8, 9), (15, 16), (21, 22), (7, 8), (13, 15), (14, 15), (18, 21), (20, 21), (19, 20)] hA hcl hav hm hpre hk rfl rfl rfl rfl rfl rfl rfl
   clear hm hav
   refine jQ hA hst ho hcl hav2 hmust 28 [0] rfl rfl rfl rfl rfl (by exact ⟨nM rfl, trivial⟩) fun D l a w ho hcl hav hpre hm hE hk hA hst => ?_
   have hS := (Ss.mk hE hst).env2 (e' := [(12, .slice LQ LK.length LR), (39, .slice Mh L3.length Mi)]) ⟨rfl, rfl, trivial⟩
   refine zi rfl ?_
   obtain ⟨MI, hM⟩ := qE hM
   refine Yk (ys := L3) 2 hS rfl rfl Mj rfl (Mz.rd (i := 0) rfl) Tryd.runUnderlying110 Tryd.runUnderlying110 X.el112 z2.len rfl Xc (LU.room Ml MI) rfl fun L9 w Mf Mg MV hz MA hS => ?_
   obtain ⟨MS, hzm⟩ := ur (L0 ++ ([(qb.mk (qi ((rd LC LB).often_ + (rd LC (qi (LB + (1 : Int)))).often_)) LL)] : List qb))
   replace hM := qB hzm hM
   have Mm := zN.append LU Ml
   rw [← hz, ← hzm] at Mm; clear hz hzm
   refine qz ?_
   replace hst := hS.st
   obtain ⟨hcl, hmust, hav2, hA⟩ := dn (vals' := [some (.slice LQ LK.length LR), some (.slice LD LE.length LH), some (.int .i64 LB), some (xz LD (Int.toNat LB * 2)), some (xz LD (Int.toNat LB * 2 + 0)), some (.int .i64 ((rd LC LB).often_)), some (.slice LD LE.length LH), some (.int .i64 LB), some (.int .i64 (qi (LB + (1 : Int)))), some (xz LD (Int.toNat (qi (LB + (1 : Int))) * 2)), some (xz LD (Int.toNat (qi (LB + (1 : Int))) * 2 + 0)), some (.int .i64 ((rd LC (qi (LB + (1 : Int)))).often_)), some (.int .i64 (qi ((rd LC LB).often_ + (rd LC (qi (LB + (1 : Int)))).often_))), some (.slice LD LE.length LH), some (.int .i64 LB), some (xz LD (Int.toNat LB * 2)), some (xz LD (Int.toNat LB * 2 + 1)), some (.slice LW ((rd LC LB).symbols_).length LY), some (.slice LD LE.length LH), some (.int .i64 LB), some (.int .i64 (qi (LB + (1 : Int)))), some (xz LD (Int.toNat (qi (LB + (1 : Int))) * 2)), some (xz LD (Int.toNat (qi (LB + (1 : Int))) * 2 + 1)), some (.slice LX ((rd LC (qi (LB + (1 : Int)))).symbols_).length LZ), some (.slice L7 LP.length L8), some (.slice LM LL.length LN), some (.agg ⟨[.int .i64 (qi ((rd LC LB).often_ + (rd LC (qi (LB + (1 : Int)))).often_)), .slice LM LL.length LN]⟩), some (.slice Mh L3.length Mi), some (.slice Mf L9.length Mg), some (.slice Mf L9.length Mg)]) 28 [(0, 28), (25, 28), (27, 28), (24, 25), (26, 27), (17, 24), (23, 24), (12, 26), (16, 17), (22, 23), (5, 12), (11, 12), (15, 16), (21, 22), (4, 5), (10, 11), (13, 15), (14, 15), (18, 21), (20, 21), (3, 4), (9, 10), (19, 20), (1, 3), (2, 3), (6, 9), (8, 9), (7, 8)] hA hcl hav hm hpre hk rfl rfl rfl rfl rfl rfl rfl
   clear hm hav
   refine yo hA hst ho hcl hmust [29] rfl rfl rfl (by exact ⟨nA rfl, trivial⟩) fun a w hS => ?_
   replace hS := hS.env2 (e' := [(0, .slice LD LE.length LH), (3, .slice Mf L9.length Mg), (4, .int .i64 LB)]) ⟨rfl, rfl, rfl, trivial⟩
   refine zz (qc ?_)
   refine zI <| sM hS rfl fun hS => sB hS rfl fun hS => zH (v := Value.int .i64) (x0 := (qi (LB + (2 : Int)))) hS (xv rfl) rfl fun MW a w hz hS => ?_
   have hM := qB hz hM; clear hz
   refine zd <| qc ?_
   exact Mx _ _ ⟨Mn, Mf, Mg, L9, MS, MV, MW, hS.to [1, 2] (by kernel_rfl) ⟨rfl, rfl, rfl, trivial⟩, L1, LF, LG, MD, MA, Mm, hM⟩
  ·refine wp_exit ?_
   refine qC (qC (q9 (qc ?_)))
   refine qk <| sM hS rfl fun hS => sA hS rfl fun hS => qz <| wp_ret ?_
   exact zm (rs := [2]) hS rfl rfl (hret LT LQ LR LK L0 Ma _ (qU hM) L1 Mj LU (hS.st.pick [0, 1] (by kernel_rfl)))
def xP (p : qm) (x : (List qb)) (vs : List Value) : Prop :=
  ∃ (A0 : Option Addr) (c0 : Nat) (r0 : List (z2 2)), vs = [.slice A0 r0.length c0] ∧ zN (ql p) x r0 ∧ Pl p (z2.v (sz := 2)) A0 r0 ∧ r0.length ≤ c0
theorem xP.mono {p p' : qm} (hs : ∀ q ∈ p, q ∈ p') {x : (List qb)} {vs : List Value} (h : xP p x vs) : xP p' x vs := by
  obtain ⟨A0, c0, r0, h0, h1, h2, h3⟩ := h
  exact ⟨A0, c0, r0, h0, zN.mono (fun _ _ h => ql.mono hs h) h1, h2.mono hs, h3⟩
theorem yC {H : xU} {F : List qm} {w : World} {R : Ending → World → Prop} {kr : Unit → Prop} {kp : Value → Prop} (hG : Gl H) (K : Nat) (LC : Int)
    (hS : St w H [] F) (hm : (z7.m K LC).wp kr kp)
    (hret : ∀ (LG : qm) (LD : Option Addr) (LE : Nat) (LF : qm) (w : World), kr () → (xh 112 (z2.v (sz := 2)) 2 LD ([] : List (z2 2)) LE LF) → (zN (ql LG) ([] : List qb) ([] : List (z2 2))) → St w H [LG, LF] F → R (.returned (.slice LD ([] : List (z2 2)).length LE)) w)
    (hpan : ∀ v w, kp v → St w H [] F → R (.panicked [⟨v, false, false⟩]) w) :
    Calls Tryd.prog 101 ⟨[.slice none 0 0, .int .i64 LC]⟩ w R := by
 refine enter Tryd.func101 rfl Tryd.ntmps101 rfl hS fun a w hS => ?_
 have hM := hm; clear hm
 rw [z7.m] at hM
 refine qk <| sA hS rfl fun hS => ?_
 obtain ⟨LB, hS⟩ := hS.pool0
 obtain ⟨LX, LU, hS⟩ := hS.nilV 112 (z2.v (sz := 2)) 2
 have LV : zN (ql LB) ([] : List qb) ([] : List (z2 2)) := zN.nil
 refine qz <| wp_seq <| qk <| sM hS rfl fun hS => sB hS rfl fun hS => qz <| qy hS rfl hM (fun LK hM => ?_) (fun LK hM => ?_)
 ·refine zI ?_
  refine sO hS (GQ rfl Tryd.runUnderlying9 rfl) rfl fun hS => Xg hS rfl <| xf ?_
  exact ⟨hS.ev.defs, hpan _ _ (Jo hM) hS.st.frame⟩
 ·refine wp_skip ?_
  refine qc <| wp_seq <| qk <| sM hS rfl fun hS => sM hS rfl fun hS => sO hS (BH rfl Tryd.runUnderlying110) rfl fun hS => sM hS rfl fun hS => sO hS (ya rfl Tryd.runUnderlying110) rfl fun hS => sB hS rfl fun hS => sB hS rfl fun hS => zH (v := Value.int .i64) (x0 := (qi (LC - (qi ((0 : Int) - (0 : Int)))))) hS (xv rfl) rfl fun LW a w hz hS => ?_
  have hM := qB hz hM; clear hz
  refine qz <| qk <| sM hS rfl fun hS => sB hS rfl fun hS => qz <| qy hS rfl hM (fun LL hM => ?_) (fun LL hM => ?_)
  ·refine zI ?_
   refine sM hS rfl fun hS => sM hS rfl fun hS => sO hS (BH rfl Tryd.runUnderlying110) rfl fun hS => sO hS (Le rfl Tryd.runUnderlying110 Tryd.sizeOf112 (BR rfl)) rfl fun hS => sM hS rfl fun hS => ?_
   obtain ⟨LN, hM⟩ := qE hM
   refine G2 (g := (z2.v (sz := 2))) hS rfl rfl Tryd.runUnderlying110 Tryd.runUnderlying3 X.el112 rfl rfl LN rfl fun w LQ LR LS LI LM LH hS => ?_
   have LO : zN (ql LB) ([] : List qb) ([] : List (z2 2)) := zN.nil
   refine sM hS rfl fun hS => sO hS (ya rfl Tryd.runUnderlying110) rfl fun hS => sO hS (Ld rfl Tryd.runUnderlying110 Tryd.sizeOf112 (fun _ => BR rfl) LM LH) rfl fun hS => sA hS rfl fun hS => qz <| qk <| sM hS rfl fun hS => sA hS rfl fun hS => qz <| wp_ret ?_
   exact zm (rs := [4]) hS rfl rfl (hret LB LQ LR LS _ (qU hM) LI LO (hS.st.pick [2, 0] (by kernel_rfl)))
  ·refine wp_skip ?_
   refine qc <| qk <| sM hS rfl fun hS => sA hS rfl fun hS => ?_
   obtain ⟨LT, LJ, hS⟩ := hS.nilV 112 (z2.v (sz := 2)) 2
   have LP : zN (ql LB) ([] : List qb) ([] : List (z2 2)) := zN.nil
   refine qz <| wp_ret ?_
   exact zm (rs := [4]) hS rfl rfl (hret LB none (0) LT _ (qU hM) LJ LP (hS.st.pick [2, 0] (by kernel_rfl)))
theorem yQ {H : xU} {F : List qm} {w : World} {R : Ending → World → Prop} {kr : (List qb) → Prop} {kp : Value → Prop} (hG : Gl H) (K : Nat) (LB : List (List qb)) (LG : qm) (LL : Option Addr) (LM : Nat) (LE : List (z2 1)) (LD : zN (xP LG) LB LE) (LI : Pl LG (z2.v (sz := 1)) LL LE) (MB : LE.length ≤ LM)
    (hS : St w H [LG] F) (hm : (qt.m K LB).wp kr kp)
    (hret : ∀ (L3 : qm) (L5 : Option Addr) (L6 : Nat) (LT : List (z2 2)) (Mb : (List qb)) (L8 : qm) (w : World), kr Mb → (∀ q ∈ LG, q ∈ L3) → (xh 112 (z2.v (sz := 2)) 2 L5 LT L6 L8) → (zN (ql L3) Mb LT) → St w H [L3, L8] F → R (.returned (.slice L5 LT.length L6)) w)
    (hpan : ∀ v w, kp v → St w H [] F → R (.panicked [⟨v, false, false⟩]) w) :
    Calls Tryd.prog 83 ⟨[.slice LL LE.length LM]⟩ w R := by
 refine enter Tryd.func83 rfl Tryd.ntmps83 rfl hS fun a w hS => ?_
 have hM := hm; clear hm
 rw [qt.m] at hM
 have LR : ∀ q ∈ LG, q ∈ LG := fun _ h => h
 refine qk <| sA hS rfl fun hS => ?_
 obtain ⟨MO, MA, hS⟩ := hS.nilV 112 (z2.v (sz := 2)) 2
 have MF : zN (ql LG) ([] : List qb) ([] : List (z2 2)) := zN.nil
 refine qz <| qk <| sA hS rfl fun hS => qz <| zx (fun a w => ∃ (LH : Int), Ss 36 [] [(0, .slice LL LE.length LM), (3, .int .i64 LH)] H [LG] F a w ∧ (qt.j2 K LB LH).wp kr kp) (fun MK Md => ?_) ?_
 ·refine wp_seq ?_
  refine zI <| sM hS rfl fun hS => sO hS (qY (v' := .int .i64 (LB.length : Int)) (ya rfl Tryd.runUnderlying165) (by rw [LD.len])) rfl fun hS => sM hS rfl fun hS => qz <| xJ <| zv (fun L9 a w => ∃ (LF : Int) (LK : Int), Ss 36 [] [(0, .slice LL LE.length LM), (3, .int .i64 LF), (9, .slice LL LE.length LM), (10, .int .i64 (LB.length : Int)), (11, .int .i64 LK)] H [LG] F a w ∧ (qt.l1 K LB L9 LF LK).wp kr kp) K ?_ ?_ ?_
  ·exact ⟨(0 : Int), (0 : Int), hS.to [1] (by kernel_rfl) ⟨rfl, rfl, rfl, rfl, rfl, trivial⟩, hM⟩
  ·intro a w hI; obtain ⟨_, _, _, hM⟩ := hI; exact zr hM
  ·intro L9 a w hI MJ Mc
   obtain ⟨LF, LK, hS, hM⟩ := hI
   rw [qt.l1] at hM
   refine qk <| sB hS rfl fun hS => qz <| wp_seq <| qy hS rfl hM (fun Mg hM => ?_) (fun Mg hM => ?_)
   ·refine wp_skip ?_
    refine qc <| wp_seq <| xJ <| wp_seq <| zI ?_
    obtain ⟨LO, hM⟩ := qE hM
    refine sO hS (x6 rfl rfl Tryd.runUnderlying165 Tryd.sizeOf110 (LI.rd (i := 0) rfl) z2.len rfl (LD.inb LO)) rfl fun hS => ?_
    obtain ⟨MH, MM, MG, Mn, Ml, ME, MC⟩ := LD.get LO
    refine sO hS (x9 rfl (LI.rd (i := 0) rfl) z2.len (LD.inb LO) (by rw [show z2.v (rd LE LK) = _ from Mn]; rfl) Tryd.isAgg110) rfl fun hS => sA hS rfl fun hS => qz <| qk <| sM hS rfl fun hS => sM hS rfl fun hS => sO hS (qY (v' := .int .i64 ((rd LB LK).length : Int)) (ya rfl Tryd.runUnderlying110) (by rw [Ml.len])) rfl fun hS => sB hS rfl fun hS => zH (v := Value.int .i64) (x0 := (qi (LF + ((rd LB LK).length : Int)))) hS (xv rfl) rfl fun L4 a w hz hS => ?_
    have hM := qB hz hM; clear hz
    refine qz <| qk <| sM hS rfl fun hS => sB hS rfl fun hS => qz <| qy hS rfl hM (fun Mh hM => ?_) (fun Mh hM => ?_)
    ·refine zI ?_
     refine sO hS (GQ rfl Tryd.runUnderlying9 rfl) rfl fun hS => Xg hS rfl <| jS (xf (xf (jS (xf ?_))))
     exact ⟨hS.ev.defs, hpan _ _ (Jo hM) hS.st.frame⟩
    ·refine wp_skip ?_
     refine zz (qc ?_)
     refine zI <| sB hS rfl fun hS => sM hS rfl fun hS => zd <| qc ?_
     exact Mc _ _ ⟨L4, (qi (LK + (1 : Int))), hS.to [0] (by kernel_rfl) ⟨rfl, rfl, rfl, rfl, rfl, trivial⟩, hM⟩
   ·refine wp_exit ?_
    refine qC (qC (q9 (qc ?_)))
    exact Md _ _ ⟨LF, hS.to [0] (by kernel_rfl) ⟨rfl, rfl, trivial⟩, hM⟩
 ·intro a w hI
  obtain ⟨LH, hS, hM⟩ := hI
  rw [qt.j2] at hM
  refine qk <| sM hS rfl fun hS => qK hS rfl Tryd.call101 (yC hG K LH (hS.st.part 0 [0] (by kernel_rfl)) (qx hM) (fun Mz Mt Mv L7 w hM My LX hst => qJ hS.ev hst.appF rfl fun hS => ?_) (fun v w hk hst => vr (xf (⟨hS.ev.defs, hpan _ _ hk hst.appF.frame⟩))))
  replace hS : Ss _ _ _ H [Mz, L7, LG] F _ _ := hS
  replace hS := hS.front [0, 2, 1] (by kernel_rfl)
  obtain ⟨L1, Mm, LS, hS⟩ := hS.poolF
  replace LX := zN.mono (fun _ _ h => ql.mono Mm h) LX
  replace LI := LI.mono LS
  replace LD := zN.mono (fun _ _ h => xP.mono LS h) LD
  replace LR := fun q h => LS q (LR q h)
  refine sA hS rfl fun hS => qz <| wp_seq <| qk <| sM hS rfl fun hS => sO hS (qY (v' := .int .i64 (LB.length : Int)) (ya rfl Tryd.runUnderlying165) (by rw [LD.len])) rfl fun hS => sM hS rfl fun hS => qz <| xJ <| zv (fun Ma a w => ∃ (LU : Option Addr) (LV : Nat) (LJ : List (z2 2)) (LC : (List qb)) (LW : qm) (LN : Int), Ss 36 [] [(6, .slice LU LJ.length LV), (25, .slice LL LE.length LM), (26, .int .i64 (LB.length : Int)), (27, .int .i64 LN)] H [L1, LW] F a w ∧ (xh 112 (z2.v (sz := 2)) 2 LU LJ LV LW) ∧ (zN (ql L1) LC LJ) ∧ (qt.l3 K LB Ma LC LN).wp kr kp) K ?_ ?_ ?_
  ·exact ⟨Mt, Mv, ([] : List (z2 2)), ([] : List qb), L7, (0 : Int), hS.to [0, 1] (by kernel_rfl) ⟨rfl, rfl, rfl, rfl, trivial⟩, My, LX, hM⟩
  ·intro a w hI; obtain ⟨_, _, _, _, _, _, _, _, _, hM⟩ := hI; exact zr hM
  ·intro Ma a w hI ML Me
   obtain ⟨LU, LV, LJ, LC, LW, LN, hS, LY, LQ, hM⟩ := hI
   rw [qt.l3] at hM
   refine qk <| sB hS rfl fun hS => qz <| wp_seq <| qy hS rfl hM (fun Mi hM => ?_) (fun Mi hM => ?_)
   ·refine wp_skip ?_
    refine qc <| wp_seq <| xJ <| wp_seq <| zI ?_
    obtain ⟨LP, hM⟩ := qE hM
    refine sO hS (x6 rfl rfl Tryd.runUnderlying165 Tryd.sizeOf110 (LI.rd (i := 0) rfl) z2.len rfl (LD.inb LP)) rfl fun hS => ?_
    obtain ⟨MI, MN, Mq, Mp, LZ, Mk, MD⟩ := LD.get LP
    refine sO hS (x9 rfl (LI.rd (i := 0) rfl) z2.len (LD.inb LP) (by rw [show z2.v (rd LE LN) = _ from Mp]; rfl) Tryd.isAgg110) rfl fun hS => sA hS rfl fun hS => qz <| zI <| sM hS rfl fun hS => sM hS rfl fun hS => ?_
    obtain ⟨Mj, hM⟩ := qE hM
    refine Yk (ys := Mq) 1 hS rfl rfl LY rfl (Mk.rd (i := 0) rfl) Tryd.runUnderlying110 Tryd.runUnderlying110 X.el112 z2.len rfl Xc (LQ.room LZ Mj) rfl fun Mr w Mu Mw Mx hz Mf hS => ?_
    obtain ⟨Ms, hzm⟩ := ur (LC ++ (rd LB LN))
    replace hM := qB hzm hM
    have L0 := zN.append LQ LZ
    rw [← hz, ← hzm] at L0; clear hz hzm
    refine sA hS rfl fun hS => zd <| zz (qc ?_)
    refine zI <| sB hS rfl fun hS => sM hS rfl fun hS => zd <| qc ?_
    exact Me _ _ ⟨Mu, Mw, Mr, Ms, Mx, (qi (LN + (1 : Int))), hS.to [0, 1] (by kernel_rfl) ⟨rfl, rfl, rfl, rfl, trivial⟩, Mf, L0, hM⟩
   ·refine wp_exit ?_
    refine qC (qC (q9 (qc ?_)))
    refine qk <| sM hS rfl fun hS => sA hS rfl fun hS => qz <| wp_ret ?_
    exact zm (rs := [2]) hS rfl rfl (hret L1 LU LV LJ LC LW _ (qU hM) LR LY LQ (hS.st.pick [0, 1] (by kernel_rfl)))
end Go.TrydS

