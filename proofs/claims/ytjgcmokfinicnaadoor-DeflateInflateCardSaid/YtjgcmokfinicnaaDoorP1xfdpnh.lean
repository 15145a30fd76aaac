/- Printed by a program of mine: each Go function answers what its model answers; conditions: what each theorem asks of memory. -/
import Derived.Test.YtjgcmokfinicnaaDoorMbnpoh
import Derived.Test.YtjgcmokfinicnaaDoorChecked
set_option linter.unusedVariables false
set_option linter.unusedSimpArgs false
set_option maxRecDepth 100000
namespace Go.TrydS
open Go Go.Sl Go.Mo Go.Proofs
attribute [local irreducible] qS.wp
theorem xw : Tryd.prog.follows .mixedOrders = true := by kernel_rfl
def _root_.Go.Mo.qB.cells (x : qB) : List Value := [.int .u8 x.Lit_, .int .i64 x.Len_, .int .i64 x.Dist_]
def _root_.Go.Mo.qt.cells (x : qt) : List Value := [.int .i64 x.at_]
def _root_.Go.Mo.xV.cells (x : xV) : List Value := [.int .i64 x.symbol_, .int .i64 x.bits_, .int .u32 x.more_]
def _root_.Go.Mo.qm.cells (x : qm) : List Value := [.int .i64 x.symbol_, .int .i64 x.more_, .int .i64 x.bits_]
def _root_.Go.Mo.qL.cells (x : qL) : List Value := [.int .i64 x.place_.at_, xS x.text_]
def _root_.Go.Mo.xD.cells (x : xD) : List Value := [.int .i64 x.from_, .int .i64 x.bits_]
theorem X.el3 : El Tryd.prog 3 1 8 := ⟨_, _, Tryd.typeInfo3, rfl, rfl, rfl, rfl⟩
theorem X.el5 : El Tryd.prog 5 1 1 := ⟨_, _, Tryd.typeInfo5, rfl, rfl, rfl, rfl⟩
theorem X.el32 : El Tryd.prog 32 3 24 := ⟨_, _, Tryd.typeInfo32, rfl, rfl, rfl, rfl⟩
theorem X.el45 : El Tryd.prog 45 1 24 := ⟨_, _, Tryd.typeInfo45, rfl, rfl, rfl, rfl⟩
theorem X.el75 : El Tryd.prog 75 3 24 := ⟨_, _, Tryd.typeInfo75, rfl, rfl, rfl, rfl⟩
theorem X.el110 : El Tryd.prog 110 1 24 := ⟨_, _, Tryd.typeInfo110, rfl, rfl, rfl, rfl⟩
theorem X.el112 : El Tryd.prog 112 2 32 := ⟨_, _, Tryd.typeInfo112, rfl, rfl, rfl, rfl⟩
theorem xH : ∀ x, ∀ u ∈ (ci .i64) x, u.oneCell' = true := fun x u hu => by cases hu with | head => rfl | tail _ h => cases h
theorem QZ : ∀ x, ∀ u ∈ (ci .u8) x, u.oneCell' = true := fun x u hu => by cases hu with | head => rfl | tail _ h => cases h
theorem BZ : ∀ x, ∀ u ∈ qB.cells x, u.oneCell' = true := by
  intro x u hu
  simp only [qB.cells, List.mem_cons, List.not_mem_nil, or_false] at hu
  rcases hu with rfl | rfl | rfl <;> rfl
theorem Z9 : ∀ x, ∀ u ∈ qm.cells x, u.oneCell' = true := by
  intro x u hu
  simp only [qm.cells, List.mem_cons, List.not_mem_nil, or_false] at hu
  rcases hu with rfl | rfl | rfl <;> rfl
structure Gl (H : xT) : Prop where
  g0 : ∃ T fr, H 0 = some (.cells ⟨tab_deflate_order.flatMap (ci .i64)⟩ T fr)
  g1 : ∃ T fr, H 1 = some (.cells ⟨tab_inflate_lengths.flatMap xD.cells⟩ T fr)
  g2 : ∃ T fr, H 2 = some (.cells ⟨tab_inflate_distances.flatMap xD.cells⟩ T fr)
  g3 : ∃ T fr, H 3 = some (.cells ⟨tab_inflate_order.flatMap (ci .i64)⟩ T fr)
theorem Je {H : xT} {F : List qp} {w : World} {R : Ending → World → Prop} {kr : Bool → Prop} {kp : Value → Prop} (hG : Gl H) (K : Nat) (LF : qB)
    (hS : St w H [] F) (hm : (vU.m K LF).wp kr kp)
    (hret : ∀ (LI : Bool) (w : World), kr LI → St w H [] F → R (.returned (.bool LI)) w) :
    Calls Tryd.prog 74 ⟨[.agg ⟨[.int .u8 LF.Lit_, .int .i64 LF.Len_, .int .i64 LF.Dist_]⟩]⟩ w R := by
 refine enter Tryd.func74 rfl Tryd.ntmps74 rfl hS fun a w hS => ?_
 have hM := hm; clear hm
 rw [vU.m] at hM
 refine qr <| bx ([.int .u8 LF.Lit_, .int .i64 LF.Len_, .int .i64 LF.Dist_]) hS rfl rfl rfl fun w LL LM LG hS => sA hS rfl fun hS => qJ <| wp_seq <| qr <| sO hS (xz rfl Tryd.runUnderlying32 rfl Tryd.sizeOf3 rfl) rfl fun hS => sO hS (ye 0 rfl LG rfl rfl Tryd.isAgg3) rfl fun hS => sB hS rfl fun hS => qJ <| qI hS rfl hM (fun LH hM => ?_) (fun LH hM => ?_)
 ·refine wp_seq ?_
  refine zI <| sO hS (xz rfl Tryd.runUnderlying32 rfl Tryd.sizeOf3 rfl) rfl fun hS => sO hS (ye 0 rfl LG rfl rfl Tryd.isAgg3) rfl fun hS => sB hS rfl fun hS => zF (v := Value.bool) (x0 := (LF.Len_ == (0 : Int))) hS (xB rfl) rfl fun LJ a w hz hS => ?_
  have hM := qE hz hM; clear hz
  refine qJ <| wp_ret <| zE ?_
  exact zX (rs := [2]) hS rfl rfl (hret LJ _ (zn hM) (hS.st.pick [] (by kernel_rfl)))
 ·refine wp_skip ?_
  refine qf <| qr <| sO hS (xz rfl Tryd.runUnderlying32 rfl Tryd.sizeOf3 rfl) rfl fun hS => sO hS (ye 0 rfl LG rfl rfl Tryd.isAgg3) rfl fun hS => sB hS rfl fun hS => sM hS rfl fun hS => y9 3 true 12 (b := (decide (LF.Dist_ > (0 : Int)))) (r := (decide (LF.Dist_ ≤ (32768 : Int)))) hS rfl rfl rfl rfl rfl rfl rfl (fun hb a w hS K hK => ?_) rfl fun a w hS => ?_
  ·refine z3 hS rfl rfl rfl hb (xz rfl Tryd.runUnderlying32 rfl Tryd.sizeOf3 rfl) rfl fun a w hS => ?_
   refine z3 hS rfl rfl rfl hb (ye 0 rfl LG rfl rfl Tryd.isAgg3) rfl fun a w hS => z3 hS rfl rfl rfl hb (jA rfl rfl rfl) rfl fun a w hS => ?_
   exact zg (hK _ _ (hS.up 3 rfl rfl))
  refine sM hS rfl fun hS => y9 3 true 17 (b := ((decide (LF.Dist_ > (0 : Int))) && (decide (LF.Dist_ ≤ (32768 : Int))))) (r := (decide (LF.Len_ ≥ (3 : Int)))) hS rfl rfl rfl rfl rfl rfl rfl (fun hb a w hS K hK => ?_) rfl fun a w hS => ?_
  ·refine z3 hS rfl rfl rfl hb (xz rfl Tryd.runUnderlying32 rfl Tryd.sizeOf3 rfl) rfl fun a w hS => ?_
   refine z3 hS rfl rfl rfl hb (ye 0 rfl LG rfl rfl Tryd.isAgg3) rfl fun a w hS => z3 hS rfl rfl rfl hb (jA rfl rfl rfl) rfl fun a w hS => ?_
   exact zg (hK _ _ (hS.up 3 rfl rfl))
  refine sM hS rfl fun hS => y9 3 true 22 (b := (((decide (LF.Dist_ > (0 : Int))) && (decide (LF.Dist_ ≤ (32768 : Int)))) && (decide (LF.Len_ ≥ (3 : Int))))) (r := (decide (LF.Len_ ≤ (258 : Int)))) hS rfl rfl rfl rfl rfl rfl rfl (fun hb a w hS K hK => ?_) rfl fun a w hS => ?_
  ·refine z3 hS rfl rfl rfl hb (xz rfl Tryd.runUnderlying32 rfl Tryd.sizeOf3 rfl) rfl fun a w hS => ?_
   refine z3 hS rfl rfl rfl hb (ye 0 rfl LG rfl rfl Tryd.isAgg3) rfl fun a w hS => z3 hS rfl rfl rfl hb (jA rfl rfl rfl) rfl fun a w hS => ?_
   exact zg (hK _ _ (hS.up 3 rfl rfl))
  refine sM hS rfl fun hS => y9 3 true 27 (b := ((((decide (LF.Dist_ > (0 : Int))) && (decide (LF.Dist_ ≤ (32768 : Int)))) && (decide (LF.Len_ ≥ (3 : Int)))) && (decide (LF.Len_ ≤ (258 : Int))))) (r := (LF.Lit_ == (0 : Int))) hS rfl rfl rfl rfl rfl rfl rfl (fun hb a w hS K hK => ?_) rfl fun a w hS => ?_
  ·refine z3 hS rfl rfl rfl hb (xz rfl Tryd.runUnderlying32 rfl Tryd.sizeOf5 rfl) rfl fun a w hS => ?_
   refine z3 hS rfl rfl rfl hb (ye 0 rfl LG rfl rfl Tryd.isAgg5) rfl fun a w hS => z3 hS rfl rfl rfl hb (jA rfl rfl rfl) rfl fun a w hS => ?_
   exact zg (hK _ _ (hS.up 3 rfl rfl))
  refine zF (v := Value.bool) (x0 := (((((decide (LF.Dist_ > (0 : Int))) && (decide (LF.Dist_ ≤ (32768 : Int)))) && (decide (LF.Len_ ≥ (3 : Int)))) && (decide (LF.Len_ ≤ (258 : Int)))) && (LF.Lit_ == (0 : Int)))) hS (xB rfl) rfl fun LK a w hz hS => ?_
  have hM := qE hz hM; clear hz
  refine qJ <| wp_ret ?_
  exact zX (rs := [2]) hS rfl rfl (hret LK _ (zn hM) (hS.st.pick [] (by kernel_rfl)))
theorem uW {H : xT} {F : List qp} {w : World} {R : Ending → World → Prop} {kr : Int → Prop} {kp : Value → Prop} (hG : Gl H) (K : Nat) (LI : Int) (LF : Int)
    (hS : St w H [] F) (hm : (yd.m K LI LF).wp kr kp)
    (hret : ∀ (LO : Int) (w : World), kr LO → St w H [] F → R (.returned (.int .i64 LO)) w) :
    Calls Tryd.prog 76 ⟨[.int .i64 LI, .int .i64 LF]⟩ w R := by
 refine enter Tryd.func76 rfl Tryd.ntmps76 rfl hS fun a w hS => ?_
 have hM := hm; clear hm
 rw [yd.m] at hM
 refine qr <| sA hS rfl fun hS => qJ <| qr <| sA hS rfl fun hS => qJ <| wp_seq <| xG <| zt (fun LP a w => ∃ (LH : Int) (LG : Int), Ss 15 [] [(0, .int .i64 LH), (1, .int .i64 LF), (5, .int .i64 LG)] H [] F a w ∧ (yd.l1 K LF LP LH LG).wp kr kp) K ?_ ?_ ?_
 ·exact ⟨LI, (0 : Int), hS.to [] (by kernel_rfl) ⟨rfl, rfl, rfl, trivial⟩, hM⟩
 ·intro a w hI; obtain ⟨_, _, _, hM⟩ := hI; exact zm hM
 ·intro LP a w hI LQ LJ
  obtain ⟨LH, LG, hS, hM⟩ := hI
  rw [yd.l1] at hM
  refine wp_seq <| qr <| sM hS rfl fun hS => sM hS rfl fun hS => ?_
  obtain ⟨LK, hM⟩ := qH hM
  refine sO hS (shl rfl rfl LK) rfl fun hS => sB hS rfl fun hS => qJ <| qI hS rfl hM (fun LL hM => ?_) (fun LL hM => ?_)
  ·refine wp_skip ?_
   refine qf <| xG <| qr <| sM hS rfl fun hS => sO hS (shr rfl rfl rfl) rfl fun hS => zF (v := Value.int .i64) (x0 := (xF .i64 LH (1 : Int))) hS (xB rfl) rfl fun LM a w hz hS => ?_
   have hM := qE hz hM; clear hz
   refine qJ <| zI <| sM hS rfl fun hS => sB hS rfl fun hS => zF (v := Value.int .i64) (x0 := (qh (LG + (1 : Int)))) hS (xB rfl) rfl fun LN a w hz hS => ?_
   have hM := qE hz hM; clear hz
   refine zg <| zw (qf ?_)
   exact LJ _ _ ⟨LM, LN, hS.to [] (by kernel_rfl) ⟨rfl, rfl, rfl, trivial⟩, hM⟩
  ·refine wp_exit ?_
   refine qC (qC (q9 (qf ?_)))
   refine qr <| sM hS rfl fun hS => sA hS rfl fun hS => qJ <| wp_ret ?_
   exact zX (rs := [4]) hS rfl rfl (hret LG _ (zn hM) (hS.st.pick [] (by kernel_rfl)))
theorem QQ {H : xT} {F : List qp} {w : World} {R : Ending → World → Prop} {kr : Int → Prop} {kp : Value → Prop} (hG : Gl H) (K : Nat) (LF : Int)
    (hS : St w H [] F) (hm : (yQ.m K LF).wp kr kp)
    (hret : ∀ (LI : Int) (w : World), kr LI → St w H [] F → R (.returned (.int .i64 LI)) w) :
    Calls Tryd.prog 75 ⟨[.int .i64 LF]⟩ w R := by
 refine enter Tryd.func75 rfl Tryd.ntmps75 rfl hS fun a w hS => ?_
 have hM := hm; clear hm
 rw [yQ.m] at hM
 refine qr <| sA hS rfl fun hS => qJ <| wp_seq <| xG <| qr <| sM hS rfl fun hS => sB hS rfl fun hS => zF (v := Value.bool) (x0 := (LF == (258 : Int))) hS (xB rfl) rfl fun LN a w hz hS => ?_
 have hM := qE hz hM; clear hz
 refine qJ <| qI hS rfl hM (fun LG hM => ?_) (fun LG hM => ?_)
 ·refine wp_seq ?_
  refine zI <| sA hS rfl fun hS => qJ <| wp_ret <| yp (zE ?_)
  exact zX (rs := [2]) hS rfl rfl (hret (8 : Int) _ (zn hM) (hS.st.pick [] (by kernel_rfl)))
 ·refine wp_seq ?_
  refine zI <| sM hS rfl fun hS => sB hS rfl fun hS => zF (v := Value.bool) (x0 := (decide (LF ≥ (115 : Int)))) hS (xB rfl) rfl fun LO a w hz hS => ?_
  have hM := qE hz hM; clear hz
  refine qJ <| qI hS rfl hM (fun LH hM => ?_) (fun LH hM => ?_)
  ·refine wp_seq ?_
   refine zI <| sM hS rfl fun hS => sB hS rfl fun hS => qN hS rfl Tryd.call76 (uW hG K (qh (LF - (3 : Int))) (2 : Int) (hS.st.part 0 [] (by kernel_rfl)) (qv hM) (fun LJ w hM  hst => qG hS.ev hst.appF rfl fun hS => ?_))
   replace hS : Ss _ _ _ H [] F _ _ := hS
   refine sB hS rfl fun hS => zF (v := Value.int .i64) (x0 := (qh ((8 : Int) + LJ))) hS (xB rfl) rfl fun LK a w hz hS => ?_
   have hM := qE hz hM; clear hz
   refine qJ <| wp_ret <| yp (zE ?_)
   exact zX (rs := [2]) hS rfl rfl (hret LK _ (zn hM) (hS.st.pick [] (by kernel_rfl)))
  ·refine wp_skip ?_
   refine zw (qf ?_)
   refine qr <| sM hS rfl fun hS => sB hS rfl fun hS => qN hS rfl Tryd.call76 (uW hG K (qh (LF - (3 : Int))) (2 : Int) (hS.st.part 0 [] (by kernel_rfl)) (qv hM) (fun LL w hM  hst => qG hS.ev hst.appF rfl fun hS => ?_))
   replace hS : Ss _ _ _ H [] F _ _ := hS
   refine sB hS rfl fun hS => zF (v := Value.int .i64) (x0 := (qh ((7 : Int) + LL))) hS (xB rfl) rfl fun LM a w hz hS => ?_
   have hM := qE hz hM; clear hz
   refine qJ <| wp_ret ?_
   exact zX (rs := [2]) hS rfl rfl (hret LM _ (zn hM) (hS.st.pick [] (by kernel_rfl)))
theorem YO {H : xT} {F : List qp} {w : World} {R : Ending → World → Prop} {kr : (Int × Int) → Prop} {kp : Value → Prop} (hG : Gl H) (K : Nat) (LF : List qB) (LQ : Option Addr) (LR : Nat) (LN : jQ H [] F qB.cells LQ LF) (L5 : LF.length ≤ LR)
    (hS : St w H [] F) (hm : (x5.m K LF).wp kr kp)
    (hret : ∀ (L1 : Int) (L3 : Int) (w : World), kr (L1, L3) → St w H [] F → R (.returned (.tuple ⟨[.int .i64 L1, .int .i64 L3]⟩)) w) :
    Calls Tryd.prog 49 ⟨[.slice LQ LF.length LR]⟩ w R := by
 refine enter Tryd.func49 rfl Tryd.ntmps49 rfl hS fun a w hS => ?_
 have hM := hm; clear hm
 rw [x5.m] at hM
 refine qr <| sA hS rfl fun hS => sA hS rfl fun hS => qJ <| qr <| sA hS rfl fun hS => qJ <| wp_seq <| qr <| sM hS rfl fun hS => sO hS (ym rfl Tryd.runUnderlying25) rfl fun hS => sM hS rfl fun hS => qJ <| xG <| zt (fun L4 a w => ∃ (LH : Int) (LG : Int), Ss 47 [] [(4, .int .i64 LH), (7, .slice LQ LF.length LR), (8, .int .i64 (LF.length : Int)), (9, .int .i64 LG)] H [] F a w ∧ (x5.l1 K LF L4 LH LG).wp kr kp) K ?_ ?_ ?_
 ·exact ⟨(7 : Int), (0 : Int), hS.to [] (by kernel_rfl) ⟨rfl, rfl, rfl, rfl, trivial⟩, hM⟩
 ·intro a w hI; obtain ⟨_, _, _, hM⟩ := hI; exact zm hM
 ·intro L4 a w hI L7 LJ
  obtain ⟨LH, LG, hS, hM⟩ := hI
  rw [x5.l1] at hM
  refine qr <| sB hS rfl fun hS => qJ <| wp_seq <| qI hS rfl hM (fun LT hM => ?_) (fun LT hM => ?_)
  ·refine wp_skip ?_
   refine qf <| wp_seq <| xG <| wp_seq <| zI ?_
   obtain ⟨LO, hM⟩ := qH hM
   refine sO hS (xZ rfl rfl Tryd.runUnderlying25 Tryd.sizeOf32 LN.wk (fun _ => rfl) rfl LO) rfl fun hS => sO hS (y4 rfl LN.wk (fun _ => rfl) LO Tryd.isAgg32 Tryd.sizeOf32 rfl) rfl fun hS => QP ([.int .u8 (0 : Int), .int .i64 (0 : Int), .int .i64 (0 : Int)]) hS Tryd.zeroValue32 rfl rfl fun w LM L8 LU hS => Zo 0 ([.int .u8 ((rd LF LG).Lit_), .int .i64 ((rd LF LG).Len_), .int .i64 ((rd LF LG).Dist_)]) ([.int .u8 ((rd LF LG).Lit_), .int .i64 ((rd LF LG).Len_), .int .i64 ((rd LF LG).Dist_)]) hS rfl rfl LU rfl rfl Tryd.sizeOf32 (by simp [Value.oneCell']) (Nat.le_of_ble_eq_true rfl) rfl fun w LV LI hS => qJ <| xG <| qr <| sO hS (u5 0 rfl LI rfl ([.int .u8 ((rd LF LG).Lit_), .int .i64 ((rd LF LG).Len_), .int .i64 ((rd LF LG).Dist_)]) rfl rfl Tryd.isAgg32 Tryd.sizeOf32) rfl fun hS => qN hS rfl Tryd.call74 (Je hG K (qB.mk ((rd LF LG).Lit_) ((rd LF LG).Len_) ((rd LF LG).Dist_)) (hS.st.part 0 [0] (by kernel_rfl)) (qv hM) (fun L6 w hM  hst => qG hS.ev hst.appF rfl fun hS => ?_))
   replace hS : Ss _ _ _ H [LV] F _ _ := hS
   refine sO hS (un rfl rfl) rfl fun hS => zF (v := Value.bool) (x0 := (!L6)) hS (xB rfl) rfl fun L9 a w hz hS => ?_
   have hM := qE hz hM; clear hz
   refine qJ <| qI hS rfl hM (fun LW hM => ?_) (fun LW hM => ?_)
   ·refine wp_seq ?_
    refine zI <| sA hS rfl fun hS => sA hS rfl fun hS => qJ <| wp_ret <| yp (yp (zE (zE (yp (zE ?_)))))
    exact zX (rs := [2, 3]) hS rfl rfl (hret (0 : Int) (1 : Int) _ (zn hM) (hS.st.pick [] (by kernel_rfl)))
   ·refine wp_seq ?_
    refine zI <| sO hS (xz rfl Tryd.runUnderlying32 rfl Tryd.sizeOf3 rfl) rfl fun hS => sO hS (ye 0 rfl LI rfl rfl Tryd.isAgg3) rfl fun hS => sB hS rfl fun hS => sM hS rfl fun hS => y9 3 true 32 (b := ((rd LF LG).Dist_ == (0 : Int))) (r := (decide ((rd LF LG).Lit_ < (144 : Int)))) hS rfl rfl rfl rfl rfl rfl rfl (fun hb a w hS K hK => ?_) rfl fun a w hS => ?_
    ·refine z3 hS rfl rfl rfl hb (xz rfl Tryd.runUnderlying32 rfl Tryd.sizeOf5 rfl) rfl fun a w hS => ?_
     refine z3 hS rfl rfl rfl hb (ye 0 rfl LI rfl rfl Tryd.isAgg5) rfl fun a w hS => z3 hS rfl rfl rfl hb (jA rfl rfl rfl) rfl fun a w hS => ?_
     exact zg (hK _ _ (hS.up 3 rfl rfl))
    refine zF (v := Value.bool) (x0 := (((rd LF LG).Dist_ == (0 : Int)) && (decide ((rd LF LG).Lit_ < (144 : Int))))) hS (xB rfl) rfl fun Ma a w hz hS => ?_
    have hM := qE hz hM; clear hz
    refine qJ <| qI hS rfl hM (fun LX hM => ?_) (fun LX hM => ?_)
    ·refine zI ?_
     refine sM hS rfl fun hS => sB hS rfl fun hS => zF (v := Value.int .i64) (x0 := (qh (LH + (8 : Int)))) hS (xB rfl) rfl fun LY a w hz hS => ?_
     have hM := qE hz hM; clear hz
     refine zg <| zw (zw (qf ?_))
     refine zI <| sB hS rfl fun hS => sM hS rfl fun hS => zg <| qf ?_
     exact LJ _ _ ⟨LY, (qh (LG + (1 : Int))), hS.to [] (by kernel_rfl) ⟨rfl, rfl, rfl, rfl, trivial⟩, hM⟩
    ·refine wp_seq ?_
     refine zI <| sO hS (xz rfl Tryd.runUnderlying32 rfl Tryd.sizeOf3 rfl) rfl fun hS => sO hS (ye 0 rfl LI rfl rfl Tryd.isAgg3) rfl fun hS => sB hS rfl fun hS => zF (v := Value.bool) (x0 := ((rd LF LG).Dist_ == (0 : Int))) hS (xB rfl) rfl fun Mb a w hz hS => ?_
     have hM := qE hz hM; clear hz
     refine qJ <| qI hS rfl hM (fun LZ hM => ?_) (fun LZ hM => ?_)
     ·refine zI ?_
      refine sM hS rfl fun hS => sB hS rfl fun hS => zF (v := Value.int .i64) (x0 := (qh (LH + (9 : Int)))) hS (xB rfl) rfl fun L0 a w hz hS => ?_
      have hM := qE hz hM; clear hz
      refine zg <| zw (zw (qf ?_))
      refine zI <| sB hS rfl fun hS => sM hS rfl fun hS => zg <| qf ?_
      exact LJ _ _ ⟨L0, (qh (LG + (1 : Int))), hS.to [] (by kernel_rfl) ⟨rfl, rfl, rfl, rfl, trivial⟩, hM⟩
     ·refine q8 (vals := [some (.int .i64 LH), some (qO LM 1), some (.int .i64 ((rd LF LG).Len_)), none, none, some (qO LM 2), some (.int .i64 ((rd LF LG).Dist_)), some (.int .i64 (qh ((rd LF LG).Dist_ - (1 : Int)))), none, none, none, none]) hS xw rfl ?_
      intro l w ho hcl hA hst
      refine yV hA hst ho hcl xk xx 3 [0, 1, 2, 5, 6, 7] rfl rfl rfl rfl rfl (by exact ⟨nM rfl, nQ rfl (by exact qV (xz rfl Tryd.runUnderlying32 rfl Tryd.sizeOf3 rfl) rfl), nQ rfl (by exact qV (ye 0 rfl LI rfl rfl Tryd.isAgg3) rfl), nQ rfl (by exact qV (xz rfl Tryd.runUnderlying32 rfl Tryd.sizeOf3 rfl) rfl), nQ rfl (by exact qV (ye 0 rfl LI rfl rfl Tryd.isAgg3) rfl), nB rfl, trivial⟩) fun D l a w ho hcl hav hpre hm hE hk hA hst => ?_
      have hS := (Ss.mk hE hst).env2 (e' := [(15, .int .i64 ((rd LF LG).Len_))]) ⟨rfl, trivial⟩
      refine qR rfl <| qN hS rfl Tryd.call75 (QQ hG K ((rd LF LG).Len_) (hS.st.part 0 [0] (by kernel_rfl)) (qv hM) (fun LK w hM  hst => qG hS.ev hst.appF rfl fun hS => ?_))
      replace hS : Ss _ _ _ H [LV] F _ _ := hS
      refine qJ ?_
      replace hst := hS.st
      obtain ⟨hcl, hmust, hav2, hA⟩ := dn (vals' := [some (.int .i64 LH), some (qO LM 1), some (.int .i64 ((rd LF LG).Len_)), some (.int .i64 LK), some (.int .i64 (qh (LK + (5 : Int)))), some (qO LM 2), some (.int .i64 ((rd LF LG).Dist_)), some (.int .i64 (qh ((rd LF LG).Dist_ - (1 : Int)))), none, none, none, none]) 3 [(2, 3), (1, 2)] hA hcl hav hm hpre hk rfl rfl rfl rfl rfl rfl rfl
      clear hm hav
      refine yV hA hst ho hcl hav2 hmust 8 [0, 4, 5, 6, 7] rfl rfl rfl rfl rfl (by exact ⟨nM rfl, nB rfl, nQ rfl (by exact qV (xz rfl Tryd.runUnderlying32 rfl Tryd.sizeOf3 rfl) rfl), nQ rfl (by exact qV (ye 0 rfl LI rfl rfl Tryd.isAgg3) rfl), nB rfl, trivial⟩) fun D l a w ho hcl hav hpre hm hE hk hA hst => ?_
      have hS := (Ss.mk hE hst).env2 (e' := [(20, .int .i64 (qh ((rd LF LG).Dist_ - (1 : Int))))]) ⟨rfl, trivial⟩
      refine qR rfl <| qN hS rfl Tryd.call76 (uW hG K (qh ((rd LF LG).Dist_ - (1 : Int))) (1 : Int) (hS.st.part 0 [0] (by kernel_rfl)) (qv hM) (fun LS w hM  hst => qG hS.ev hst.appF rfl fun hS => ?_))
      replace hS : Ss _ _ _ H [LV] F _ _ := hS
      refine qJ ?_
      replace hst := hS.st
      obtain ⟨LL, LP⟩ : ∃ x, x = (qh (LH + (qh ((qh (LK + (5 : Int))) + LS)))) := ⟨_, rfl⟩
      replace hM := qE LP hM
      obtain ⟨hcl, hmust, hav2, hA⟩ := dn (vals' := [some (.int .i64 LH), some (qO LM 1), some (.int .i64 ((rd LF LG).Len_)), some (.int .i64 LK), some (.int .i64 (qh (LK + (5 : Int)))), some (qO LM 2), some (.int .i64 ((rd LF LG).Dist_)), some (.int .i64 (qh ((rd LF LG).Dist_ - (1 : Int)))), some (.int .i64 LS), some (.int .i64 (qh ((qh (LK + (5 : Int))) + LS))), some (.int .i64 (qh (LH + (qh ((qh (LK + (5 : Int))) + LS))))), some (.int .i64 LL)]) 8 [(3, 8), (7, 8), (2, 3), (6, 7), (1, 2), (5, 6)] hA hcl hav hm hpre hk rfl rfl rfl rfl rfl rfl rfl
      clear hm hav
      refine x6 hA hst ho hcl hmust [0, 4, 9, 10, 11] rfl rfl rfl (by exact ⟨nM rfl, nB rfl, nB rfl, nB rfl, nQ rfl (by exact qV (xB rfl) (congrArg (Value.int .i64) LP.symm)), trivial⟩) fun a w hS => ?_
      replace hS := hS.env2 (e' := [(4, .int .i64 LL), (7, .slice LQ LF.length LR), (8, .int .i64 (LF.length : Int)), (9, .int .i64 LG)]) ⟨rfl, rfl, rfl, rfl, trivial⟩
      refine zw (zw (qf ?_))
      refine zI <| sB hS rfl fun hS => sM hS rfl fun hS => zg <| qf ?_
      exact LJ _ _ ⟨LL, (qh (LG + (1 : Int))), hS.to [] (by kernel_rfl) ⟨rfl, rfl, rfl, rfl, trivial⟩, hM⟩
  ·refine wp_exit ?_
   refine qC (qC (q9 (qf ?_)))
   refine qr <| sM hS rfl fun hS => sA hS rfl fun hS => sA hS rfl fun hS => qJ <| wp_ret ?_
   exact zX (rs := [2, 3]) hS rfl rfl (hret LH (0 : Int) _ (zn hM) (hS.st.pick [] (by kernel_rfl)))
theorem Qb {H : xT} {F : List qp} {w : World} {R : Ending → World → Prop} {kr : Bool → Prop} {kp : Value → Prop} (hG : Gl H) (K : Nat) (LF : List qB) (LG : Option Addr) (LH : Nat) (LI : jQ H [] F qB.cells LG LF) (LJ : LF.length ≤ LH)
    (hS : St w H [] F) (hm : (jk.m K LF).wp kr kp)
    (hret : ∀ (LK : Bool) (w : World), kr LK → St w H [] F → R (.returned (.bool LK)) w) :
    Calls Tryd.prog 21 ⟨[.slice LG LF.length LH]⟩ w R := by
 refine enter Tryd.func21 rfl Tryd.ntmps21 rfl hS fun a w hS => ?_
 have hM := hm; clear hm
 rw [jk.m] at hM
 refine qr <| sA hS rfl fun hS => qJ <| qr <| sM hS rfl fun hS => qN hS rfl Tryd.call49 (YO hG K LF LG LH (LI.app _) LJ (hS.st.part 0 [] (by kernel_rfl)) (qv hM) (fun LN LL w hM  hst => qG hS.ev hst.appF rfl fun hS => ?_))
 replace hS : Ss _ _ _ H [] F _ _ := hS
 refine sM hS rfl fun hS => sO hS (ex rfl rfl) rfl fun hS => sO hS (ex rfl rfl) rfl fun hS => sA hS rfl fun hS => sA hS rfl fun hS => qJ <| qr <| sM hS rfl fun hS => sB hS rfl fun hS => zF (v := Value.bool) (x0 := (LL == (0 : Int))) hS (xB rfl) rfl fun LM a w hz hS => ?_
 have hM := qE hz hM; clear hz
 refine qJ <| wp_ret ?_
 exact zX (rs := [2]) hS rfl rfl (hret LM _ (zn hM) (hS.st.pick [] (by kernel_rfl)))
theorem uJ {H : xT} {F : List qp} {w : World} {R : Ending → World → Prop} {kr : ((List Int) × Bool) → Prop} {kp : Value → Prop} (hG : Gl H) (K : Nat) (LF : List Int) (L1 : Option Addr) (L3 : Nat) (LY : jQ H [] F (ci .i64) L1 LF) (Ml : LF.length ≤ L3)
    (hS : St w H [] F) (hm : (xi.m K LF).wp kr kp)
    (hret : ∀ (L4 : (List Int)) (L6 : Bool) (w : World), kr (L4, L6) → (L4.length = 16) → St w H [] F → R (.returned (.tuple ⟨[.agg ⟨L4.flatMap (ci .i64)⟩, .bool L6]⟩)) w) :
    Calls Tryd.prog 78 ⟨[.slice L1 LF.length L3]⟩ w R := by
 refine enter Tryd.func78 rfl Tryd.ntmps78 rfl hS fun a w hS => ?_
 have hM := hm; clear hm
 rw [xi.m] at hM
 refine qr <| QP ((List.replicate 16 (0 : Int)).flatMap (ci .i64)) hS Tryd.zeroValue136 rfl rfl fun w LJ Mg LP hS => sA hS rfl fun hS => qJ <| wp_seq <| qr <| sM hS rfl fun hS => sO hS (ym rfl Tryd.runUnderlying45) rfl fun hS => sB hS rfl fun hS => qJ <| qI hS rfl hM (fun L7 hM => ?_) (fun L7 hM => ?_)
 ·refine wp_seq ?_
  refine zI <| sO hS (Yc (xs := (List.replicate 16 (0 : Int))) (g := (ci .i64)) (pre := []) (post := []) 0 rfl LP rfl (by simp) rfl (xh (g := (ci .i64)) (sz := 1) (fun _ => rfl) (List.length_replicate ..)) Tryd.isAgg136 Tryd.sizeOf136) rfl fun hS => X6 (xs := (List.replicate 16 (0 : Int))) (ys := (List.replicate 16 (0 : Int))) (g := (ci .i64)) (pre := []) (post := []) 0 hS rfl rfl LP rfl (by simp) rfl (xh (g := (ci .i64)) (sz := 1) (fun _ => rfl) (List.length_replicate ..)) (xh (g := (ci .i64)) (sz := 1) (fun _ => rfl) (List.length_replicate ..)) (xH) Tryd.sizeOf136 fun w Mh LQ hS => ?_
  replace LQ : xO Mh LJ ((List.replicate 16 (0 : Int)).flatMap (ci .i64)) 136 := by simpa using LQ
  refine sA hS rfl fun hS => qJ <| wp_ret <| zE ?_
  exact jU (vs := [.agg ⟨(List.replicate 16 (0 : Int)).flatMap (ci .i64)⟩, .bool false]) hS rfl (by exact ⟨GG 0 rfl LQ rfl (xh (g := (ci .i64)) (sz := 1) (fun _ => rfl) (List.length_replicate ..)) Tryd.isAgg136 Tryd.sizeOf136, GU rfl, trivial⟩) (hret (List.replicate 16 (0 : Int)) false _ (zn hM) (List.length_replicate ..) (hS.st.pick [] (by kernel_rfl)))
 ·refine wp_skip ?_
  refine qf <| zc (fun a w => ∃ (LK : (List Int)) (L5 : qp), Ss 31 [] [(2, qO LJ 0)] H [L5] F a w ∧ (LK.length = 16) ∧ (xO L5 LJ (LK.flatMap (ci .i64)) 136) ∧ (xi.j2 K LK).wp kr kp) (fun Mm L8 => ?_) ?_
  ·refine wp_seq ?_
   refine zI <| sM hS rfl fun hS => sO hS (ym rfl Tryd.runUnderlying45) rfl fun hS => sM hS rfl fun hS => qJ <| xG <| zt (fun L9 a w => ∃ (LG : (List Int)) (LX : qp) (LR : Int), Ss 31 [] [(2, qO LJ 0), (10, .slice L1 LF.length L3), (11, .int .i64 (LF.length : Int)), (12, .int .i64 LR)] H [LX] F a w ∧ (LG.length = 16) ∧ (xO LX LJ (LG.flatMap (ci .i64)) 136) ∧ (xi.l1 K LF L9 LG LR).wp kr kp) K ?_ ?_ ?_
   ·exact ⟨(List.replicate 16 (0 : Int)), Mg, (0 : Int), hS.to [0] (by kernel_rfl) ⟨rfl, rfl, rfl, rfl, trivial⟩, (List.length_replicate ..), LP, hM⟩
   ·intro a w hI; obtain ⟨_, _, _, _, _, _, hM⟩ := hI; exact zm hM
   ·intro L9 a w hI Mn Ma
    obtain ⟨LG, LX, LR, hS, LH, LL, hM⟩ := hI
    rw [xi.l1] at hM
    refine qr <| sB hS rfl fun hS => qJ <| wp_seq <| qI hS rfl hM (fun Mb hM => ?_) (fun Mb hM => ?_)
    ·refine wp_skip ?_
     refine qf <| wp_seq <| xG <| wp_seq <| zI ?_
     obtain ⟨LZ, hM⟩ := qH hM
     refine sO hS (xZ rfl rfl Tryd.runUnderlying45 Tryd.sizeOf3 LY.wk (fun _ => rfl) rfl LZ) rfl fun hS => sO hS (yH rfl LY.wk (fun _ => rfl) LZ rfl Tryd.isAgg3) rfl fun hS => zF (v := Value.int .i64) (x0 := (rd LF LR)) hS (xB rfl) rfl fun LS a w hz hS => ?_
     have hM := qE hz hM; clear hz
     refine qJ <| wp_seq <| qr <| sM hS rfl fun hS => sB hS rfl fun hS => sM hS rfl fun hS => y9 2 false 18 (b := (decide (LS < (0 : Int)))) (r := (decide (LS > (15 : Int)))) hS rfl rfl rfl rfl rfl rfl rfl (fun hb a w hS K hK => ?_) rfl fun a w hS => ?_
     ·refine z3 hS rfl rfl rfl hb (mv rfl) rfl fun a w hS => ?_
      refine z3 hS rfl rfl rfl hb (jA rfl rfl rfl) rfl fun a w hS => ?_
      exact zg (hK _ _ (hS.up 2 rfl rfl))
     refine qJ <| qI hS rfl hM (fun Mc hM => ?_) (fun Mc hM => ?_)
     ·refine wp_seq ?_
      refine zI <| sO hS (Yc (xs := LG) (g := (ci .i64)) (pre := []) (post := []) 0 rfl LL rfl (by simp) rfl (xh (g := (ci .i64)) (sz := 1) (fun _ => rfl) LH) Tryd.isAgg136 Tryd.sizeOf136) rfl fun hS => X6 (xs := LG) (ys := LG) (g := (ci .i64)) (pre := []) (post := []) 0 hS rfl rfl LL rfl (by simp) rfl (xh (g := (ci .i64)) (sz := 1) (fun _ => rfl) LH) (xh (g := (ci .i64)) (sz := 1) (fun _ => rfl) LH) (xH) Tryd.sizeOf136 fun w Mi LT hS => ?_
      replace LT : xO Mi LJ (LG.flatMap (ci .i64)) 136 := by simpa using LT
      refine sA hS rfl fun hS => qJ <| wp_ret <| zE (yp (zE (zE (yp (zE ?_)))))
      exact jU (vs := [.agg ⟨LG.flatMap (ci .i64)⟩, .bool false]) hS rfl (by exact ⟨GG 0 rfl LT rfl (xh (g := (ci .i64)) (sz := 1) (fun _ => rfl) LH) Tryd.isAgg136 Tryd.sizeOf136, GU rfl, trivial⟩) (hret LG false _ (zn hM) LH (hS.st.pick [] (by kernel_rfl)))
     ·refine wp_skip ?_
      refine qf <| zI <| sM hS rfl fun hS => ?_
      obtain ⟨LN, hM⟩ := qH hM
      refine sO hS (Vk rfl rfl Tryd.runUnderlying136 Tryd.sizeOf3 LN) rfl fun hS => sO hS (Gx (xs := LG) (g := (ci .i64)) (pre := []) (post := []) 0 rfl LL rfl (by simp) rfl (fun _ => rfl) (y8 LH LN) rfl Tryd.isAgg3) rfl fun hS => sB hS rfl fun hS => sO hS (Vk rfl rfl Tryd.runUnderlying136 Tryd.sizeOf3 LN) rfl fun hS => Bt (xs := LG) (g := (ci .i64)) (pre := []) (post := []) 0 ((qh ((rd LG LS) + (1 : Int)))) hS rfl rfl LL rfl (by simp) rfl (fun _ => rfl) (y8 LH LN) rfl Tryd.sizeOf3 (xH _) fun LU w Md hz LV hS => ?_
      have Me : LU.length = 16 := by rw [hz, List.length_set]; exact LH
      have hM := qE hz hM; clear hz
      replace LV : xO Md LJ (LU.flatMap (ci .i64)) 136 := by simpa using LV
      refine zg <| zw (qf ?_)
      refine zI <| sB hS rfl fun hS => sM hS rfl fun hS => zg <| qf ?_
      exact Ma _ _ ⟨LU, Md, (qh (LR + (1 : Int))), hS.to [0] (by kernel_rfl) ⟨rfl, rfl, rfl, rfl, trivial⟩, Me, LV, hM⟩
    ·refine wp_exit ?_
     refine qC (qC (q9 (qf ?_)))
     exact L8 _ _ ⟨LG, LX, hS.to [0] (by kernel_rfl) ⟨rfl, trivial⟩, LH, LL, hM⟩
  ·intro a w hI
   obtain ⟨LK, L5, hS, L0, Mf, hM⟩ := hI
   rw [xi.j2] at hM
   refine qr <| sO hS (Vk rfl rfl Tryd.runUnderlying136 Tryd.sizeOf3 rfl) rfl fun hS => Bt (xs := LK) (g := (ci .i64)) (pre := []) (post := []) 0 ((0 : Int)) hS rfl rfl Mf rfl (by simp) rfl (fun _ => rfl) (y8 L0 rfl) rfl Tryd.sizeOf3 (xH _) fun LI w Mj hz LO hS => ?_
   have LM : LI.length = 16 := by rw [hz, List.length_set]; exact L0
   have hM := qE hz hM; clear hz
   replace LO : xO Mj LJ (LI.flatMap (ci .i64)) 136 := by simpa using LO
   refine qJ <| qr <| sO hS (Yc (xs := LI) (g := (ci .i64)) (pre := []) (post := []) 0 rfl LO rfl (by simp) rfl (xh (g := (ci .i64)) (sz := 1) (fun _ => rfl) LM) Tryd.isAgg136 Tryd.sizeOf136) rfl fun hS => X6 (xs := LI) (ys := LI) (g := (ci .i64)) (pre := []) (post := []) 0 hS rfl rfl LO rfl (by simp) rfl (xh (g := (ci .i64)) (sz := 1) (fun _ => rfl) LM) (xh (g := (ci .i64)) (sz := 1) (fun _ => rfl) LM) (xH) Tryd.sizeOf136 fun w Mk LW hS => ?_
   replace LW : xO Mk LJ (LI.flatMap (ci .i64)) 136 := by simpa using LW
   refine sA hS rfl fun hS => qJ <| wp_ret ?_
   exact jU (vs := [.agg ⟨LI.flatMap (ci .i64)⟩, .bool true]) hS rfl (by exact ⟨GG 0 rfl LW rfl (xh (g := (ci .i64)) (sz := 1) (fun _ => rfl) LM) Tryd.isAgg136 Tryd.sizeOf136, GU rfl, trivial⟩) (hret LI true _ (zn hM) LM (hS.st.pick [] (by kernel_rfl)))
theorem Zb {H : xT} {F : List qp} {w : World} {R : Ending → World → Prop} {kr : Int → Prop} {kp : Value → Prop} (hG : Gl H) (K : Nat) (LF : List Int) (LM : Option Addr) (LN : Nat) (LR : jQ H [] F (ci .i64) LM LF) (LS : LF.length ≤ LN)
    (hS : St w H [] F) (hm : (xu.m K LF).wp kr kp)
    (hret : ∀ (LT : Int) (w : World), kr LT → St w H [] F → R (.returned (.int .i64 LT)) w) :
    Calls Tryd.prog 77 ⟨[.slice LM LF.length LN]⟩ w R := by
 refine enter Tryd.func77 rfl Tryd.ntmps77 rfl hS fun a w hS => ?_
 have hM := hm; clear hm
 rw [xu.m] at hM
 refine qr <| sA hS rfl fun hS => qJ <| qr <| sM hS rfl fun hS => qN hS rfl Tryd.call78 (uJ hG K LF LM LN (LR.app _) LS (hS.st.part 0 [] (by kernel_rfl)) (qv hM) (fun LI L5 w hM LL hst => qG hS.ev hst.appF rfl fun hS => ?_))
 replace hS : Ss _ _ _ H [] F _ _ := hS
 refine sM hS rfl fun hS => sO hS (ex rfl rfl) rfl fun hS => sO hS (ex rfl rfl) rfl fun hS => QP ((List.replicate 16 (0 : Int)).flatMap (ci .i64)) hS Tryd.zeroValue136 rfl rfl fun w LO L6 LU hS => X6 (xs := (List.replicate 16 (0 : Int))) (ys := LI) (g := (ci .i64)) (pre := []) (post := []) 0 hS rfl rfl LU rfl (by simp) rfl (xh (g := (ci .i64)) (sz := 1) (fun _ => rfl) (List.length_replicate ..)) (xh (g := (ci .i64)) (sz := 1) (fun _ => rfl) LL) (xH) Tryd.sizeOf136 fun w LP LJ hS => ?_
 replace LJ : xO LP LO (LI.flatMap (ci .i64)) 136 := by simpa using LJ
 refine sA hS rfl fun hS => qJ <| wp_seq <| qr <| sM hS rfl fun hS => sO hS (un rfl rfl) rfl fun hS => qJ <| qI hS rfl hM (fun LV hM => ?_) (fun LV hM => ?_)
 ·refine wp_seq ?_
  refine zI <| sA hS rfl fun hS => qJ <| wp_ret <| zE ?_
  exact zX (rs := [2]) hS rfl rfl (hret (1 : Int) _ (zn hM) (hS.st.pick [] (by kernel_rfl)))
 ·refine wp_skip ?_
  refine qf <| qr <| sA hS rfl fun hS => qJ <| zc (fun a w => ∃ (LG : Int), Ss 38 [] [(3, qO LO 0), (5, .int .i64 LG)] H [LP] F a w ∧ (xu.j2 K LI LG).wp kr kp) (fun L7 LW => ?_) ?_
  ·refine wp_seq ?_
   refine zI <| sO hS (Yc (xs := LI) (g := (ci .i64)) (pre := []) (post := []) 0 rfl LJ rfl (by simp) rfl (xh (g := (ci .i64)) (sz := 1) (fun _ => rfl) LL) Tryd.isAgg136 Tryd.sizeOf136) rfl fun hS => sM hS rfl fun hS => qJ <| xG <| zt (fun LX a w => ∃ (LH : Int) (LK : Int), Ss 38 [] [(3, qO LO 0), (5, .int .i64 LH), (15, .agg ⟨LI.flatMap (ci .i64)⟩), (16, .int .i64 LK)] H [LP] F a w ∧ (xu.l1 K LI LX LH LK).wp kr kp) K ?_ ?_ ?_
   ·exact ⟨(0 : Int), (0 : Int), hS.to [0] (by kernel_rfl) ⟨rfl, rfl, rfl, rfl, trivial⟩, hM⟩
   ·intro a w hI; obtain ⟨_, _, _, hM⟩ := hI; exact zm hM
   ·intro LX a w hI L8 LY
    obtain ⟨LH, LK, hS, hM⟩ := hI
    rw [xu.l1] at hM
    refine qr <| sB hS rfl fun hS => qJ <| wp_seq <| qI hS rfl hM (fun LZ hM => ?_) (fun LZ hM => ?_)
    ·refine wp_skip ?_
     refine qf <| wp_seq <| xG <| qr <| sM hS rfl fun hS => ?_
     obtain ⟨L0, hM⟩ := qH hM
     refine sO hS (G7 rfl rfl Tryd.runUnderlying136 Tryd.isAgg3 Tryd.sizeOf3 (fun _ => rfl) LL L0 rfl) rfl fun hS => sA hS rfl fun hS => zF (v := Value.int .i64) (x0 := (rd LI LK)) hS (xB rfl) rfl fun L1 a w hz hS => ?_
     have hM := qE hz hM; clear hz
     refine qJ <| zI <| sM hS rfl fun hS => sM hS rfl fun hS => sM hS rfl fun hS => ?_
     obtain ⟨L3, hM⟩ := qH hM
     refine sO hS (shr rfl rfl L3) rfl fun hS => sB hS rfl fun hS => sB hS rfl fun hS => zF (v := Value.int .i64) (x0 := (qh (LH + (qh (L1 * (xF .i64 (32768 : Int) LK)))))) hS (xB rfl) rfl fun LQ a w hz hS => ?_
     have hM := qE hz hM; clear hz
     refine zg <| zw (qf ?_)
     refine zI <| sB hS rfl fun hS => sM hS rfl fun hS => zg <| qf ?_
     exact LY _ _ ⟨LQ, (qh (LK + (1 : Int))), hS.to [0] (by kernel_rfl) ⟨rfl, rfl, rfl, rfl, trivial⟩, hM⟩
    ·refine wp_exit ?_
     refine qC (qC (q9 (qf ?_)))
     exact LW _ _ ⟨LH, hS.to [0] (by kernel_rfl) ⟨rfl, rfl, trivial⟩, hM⟩
  ·intro a w hI
   obtain ⟨LG, hS, hM⟩ := hI
   rw [xu.j2] at hM
   refine wp_seq <| qr <| sM hS rfl fun hS => sB hS rfl fun hS => sM hS rfl fun hS => y9 2 false 29 (b := (LG == (0 : Int))) (r := (LG == (32768 : Int))) hS rfl rfl rfl rfl rfl rfl rfl (fun hb a w hS K hK => ?_) rfl fun a w hS => ?_
   ·refine z3 hS rfl rfl rfl hb (mv rfl) rfl fun a w hS => ?_
    refine z3 hS rfl rfl rfl hb (jA rfl rfl rfl) rfl fun a w hS => ?_
    exact zg (hK _ _ (hS.up 2 rfl rfl))
   refine sM hS rfl fun hS => y9 3 false 33 (b := ((LG == (0 : Int)) || (LG == (32768 : Int)))) (r := (LI == ([0, (1 : Int), 0, 0, 0, 0, 0, 0, 0, 0, 0, 0, 0, 0, 0, 0] : List Int))) hS rfl rfl rfl rfl rfl rfl rfl (fun hb a w hS K hK => ?_) rfl fun a w hS => ?_
   ·refine z3 hS rfl rfl rfl hb (Yc (xs := LI) (g := (ci .i64)) (pre := []) (post := []) 0 rfl LJ rfl (by simp) rfl (xh (g := (ci .i64)) (sz := 1) (fun _ => rfl) LL) Tryd.isAgg136 Tryd.sizeOf136) rfl fun a w hS => ?_
    refine z3 hS rfl rfl rfl hb (K9 (([0, (1 : Int), 0, 0, 0, 0, 0, 0, 0, 0, 0, 0, 0, 0, 0, 0] : List Int).flatMap (ci .i64)) Tryd.zeroValue136 Tryd.runUnderlying136 Tryd.sizeOf3 rfl (by kernel_rfl)) rfl fun a w hS => z3 hS rfl rfl rfl hb (Do rfl rfl Tryd.runUnderlying136 Tryd.runUnderlying3 Tryd.sizeOf3 Tryd.isAgg3 LL rfl Tryd.eqGuardType136 rfl) rfl fun a w hS => ?_
    exact zg (hK _ _ (hS.up 3 rfl rfl))
   refine qJ <| qI hS rfl hM (fun L4 hM => ?_) (fun L4 hM => ?_)
   ·refine wp_seq ?_
    refine zI <| sA hS rfl fun hS => qJ <| wp_ret <| zE ?_
    exact zX (rs := [2]) hS rfl rfl (hret (0 : Int) _ (zn hM) (hS.st.pick [] (by kernel_rfl)))
   ·refine wp_skip ?_
    refine qf <| qr <| sA hS rfl fun hS => qJ <| wp_ret ?_
    exact zX (rs := [2]) hS rfl rfl (hret (3 : Int) _ (zn hM) (hS.st.pick [] (by kernel_rfl)))
theorem u6 {H : xT} {F : List qp} {w : World} {R : Ending → World → Prop} {kr : (List Int) → Prop} {kp : Value → Prop} (hG : Gl H) (K : Nat) (LI : List Int) (LY : LI.length = 16)
    (hS : St w H [] F) (hm : (zJ.m K LI).wp kr kp)
    (hret : ∀ (LW : (List Int)) (w : World), kr LW → (LW.length = 16) → St w H [] F → R (.returned (.agg ⟨LW.flatMap (ci .i64)⟩)) w) :
    Calls Tryd.prog 79 ⟨[.agg ⟨LI.flatMap (ci .i64)⟩]⟩ w R := by
 refine enter Tryd.func79 rfl Tryd.ntmps79 rfl hS fun a w hS => ?_
 have hM := hm; clear hm
 rw [zJ.m] at hM
 refine qr <| bx (LI.flatMap (ci .i64)) hS rfl rfl rfl fun w L9 Ma LZ hS => QP ((List.replicate 16 (0 : Int)).flatMap (ci .i64)) hS Tryd.zeroValue136 rfl rfl fun w LM Mb L0 hS => qJ <| qr <| sA hS rfl fun hS => qJ <| zc (fun a w => ∃ (LF : (List Int)) (LX : qp), Ss 20 [] [(2, qO LM 0)] H [LX] F a w ∧ (LF.length = 16) ∧ (xO LX LM (LF.flatMap (ci .i64)) 136) ∧ (zJ.j2 K LF).wp kr kp) (fun Md L1 => ?_) ?_
 ·refine wp_seq ?_
  refine zI <| sA hS rfl fun hS => qJ <| xG <| zt (fun L3 a w => ∃ (LG : (List Int)) (LR : qp) (LH : Int) (LJ : Int), Ss 20 [] [(1, qO L9 0), (2, qO LM 0), (3, .int .i64 LH), (4, .int .i64 LJ)] H [Ma, LR] F a w ∧ (LG.length = 16) ∧ (xO LR LM (LG.flatMap (ci .i64)) 136) ∧ (zJ.l1 K LI L3 LG LH LJ).wp kr kp) K ?_ ?_ ?_
  ·exact ⟨(List.replicate 16 (0 : Int)), Mb, (0 : Int), (1 : Int), hS.to [1, 0] (by kernel_rfl) ⟨rfl, rfl, rfl, rfl, trivial⟩, (List.length_replicate ..), L0, hM⟩
  ·intro a w hI; obtain ⟨_, _, _, _, _, _, _, hM⟩ := hI; exact zm hM
  ·intro L3 a w hI Me L4
   obtain ⟨LG, LR, LH, LJ, hS, LN, LS, hM⟩ := hI
   rw [zJ.l1] at hM
   refine wp_seq <| qr <| sM hS rfl fun hS => sB hS rfl fun hS => qJ <| qI hS rfl hM (fun L5 hM => ?_) (fun L5 hM => ?_)
   ·refine wp_skip ?_
    refine qf <| wp_seq <| xG <| qr <| sM hS rfl fun hS => sM hS rfl fun hS => sB hS rfl fun hS => ?_
    obtain ⟨LT, hM⟩ := qH hM
    refine sO hS (Vk rfl rfl Tryd.runUnderlying136 Tryd.sizeOf3 LT) rfl fun hS => sO hS (Gx (xs := LI) (g := (ci .i64)) (pre := []) (post := []) 0 rfl LZ rfl (by simp) rfl (fun _ => rfl) (y8 LY LT) rfl Tryd.isAgg3) rfl fun hS => sB hS rfl fun hS => sO hS (shl rfl rfl rfl) rfl fun hS => zF (v := Value.int .i64) (x0 := (xf .i64 (qh (LH + (rd LI (qh (LJ - (1 : Int)))))) (1 : Int))) hS (xB rfl) rfl fun LL a w hz hS => ?_
    have hM := qE hz hM; clear hz
    refine qJ <| zI <| sM hS rfl fun hS => sM hS rfl fun hS => ?_
    obtain ⟨LU, hM⟩ := qH hM
    refine sO hS (Vk rfl rfl Tryd.runUnderlying136 Tryd.sizeOf3 LU) rfl fun hS => Bt (xs := LG) (g := (ci .i64)) (pre := []) (post := []) 1 (LL) hS rfl rfl LS rfl (by simp) rfl (fun _ => rfl) (y8 LN LU) rfl Tryd.sizeOf3 (xH _) fun LO w L6 hz LP hS => ?_
    have L7 : LO.length = 16 := by rw [hz, List.length_set]; exact LN
    have hM := qE hz hM; clear hz
    replace LP : xO L6 LM (LO.flatMap (ci .i64)) 136 := by simpa using LP
    refine zg <| zw (qf ?_)
    refine zI <| sM hS rfl fun hS => sB hS rfl fun hS => zF (v := Value.int .i64) (x0 := (qh (LJ + (1 : Int)))) hS (xB rfl) rfl fun L8 a w hz hS => ?_
    have hM := qE hz hM; clear hz
    refine zg <| qf ?_
    exact L4 _ _ ⟨LO, L6, LL, L8, hS.to [0, 1] (by kernel_rfl) ⟨rfl, rfl, rfl, rfl, trivial⟩, L7, LP, hM⟩
   ·refine wp_exit ?_
    refine qC (qC (q9 (qf ?_)))
    exact L1 _ _ ⟨LG, LR, hS.to [1] (by kernel_rfl) ⟨rfl, trivial⟩, LN, LS, hM⟩
 ·intro a w hI
  obtain ⟨LF, LX, hS, LK, LV, hM⟩ := hI
  rw [zJ.j2] at hM
  refine qr <| sO hS (Yc (xs := LF) (g := (ci .i64)) (pre := []) (post := []) 0 rfl LV rfl (by simp) rfl (xh (g := (ci .i64)) (sz := 1) (fun _ => rfl) LK) Tryd.isAgg136 Tryd.sizeOf136) rfl fun hS => X6 (xs := LF) (ys := LF) (g := (ci .i64)) (pre := []) (post := []) 0 hS rfl rfl LV rfl (by simp) rfl (xh (g := (ci .i64)) (sz := 1) (fun _ => rfl) LK) (xh (g := (ci .i64)) (sz := 1) (fun _ => rfl) LK) (xH) Tryd.sizeOf136 fun w Mc LQ hS => ?_
  replace LQ : xO Mc LM (LF.flatMap (ci .i64)) 136 := by simpa using LQ
  refine qJ <| wp_ret ?_
  exact jU (vs := [.agg ⟨LF.flatMap (ci .i64)⟩]) hS rfl (by exact ⟨GG 0 rfl LQ rfl (xh (g := (ci .i64)) (sz := 1) (fun _ => rfl) LK) Tryd.isAgg136 Tryd.sizeOf136, trivial⟩) (hret LF _ (zn hM) LK (hS.st.pick [] (by kernel_rfl)))
theorem Jf {H : xT} {F : List qp} {w : World} {R : Ending → World → Prop} {kr : ((List Int) × Int) → Prop} {kp : Value → Prop} (hG : Gl H) (K : Nat) (LF : List Int) (LQ : Option Addr) (LR : Nat) (LN : jQ H [] F (ci .i64) LQ LF) (L3 : LF.length ≤ LR)
    (hS : St w H [] F) (hm : (yb.m K LF).wp kr kp)
    (hret : ∀ (Mc : Option Addr) (Md : Nat) (L8 : (List Int)) (Me : qp) (Mf : Int) (w : World), kr (L8, Mf) → (xb 3 (ci .i64) 1 Mc L8 Md Me) → St w H [Me] F → R (.returned (.tuple ⟨[.slice Mc L8.length Md, .int .i64 Mf]⟩)) w) :
    Calls Tryd.prog 53 ⟨[.slice LQ LF.length LR]⟩ w R := by
 refine enter Tryd.func53 rfl Tryd.ntmps53 rfl hS fun a w hS => ?_
 have hM := hm; clear hm
 rw [yb.m] at hM
 refine qr <| sA hS rfl fun hS => ?_
 obtain ⟨L9, MC, hS⟩ := hS.nilV 3 (ci .i64) 1
 refine sA hS rfl fun hS => qJ <| wp_seq <| qr <| sM hS rfl fun hS => qN hS rfl Tryd.call77 (Zb hG K LF LQ LR (LN.app _) L3 (hS.st.part 0 [0] (by kernel_rfl)) (qv hM) (fun Mx w hM  hst => qG hS.ev hst.appF rfl fun hS => ?_))
 replace hS : Ss _ _ _ H [L9] F _ _ := hS
 refine sA hS rfl fun hS => qJ <| qr <| sM hS rfl fun hS => sB hS rfl fun hS => qJ <| qI hS rfl hM (fun Mg hM => ?_) (fun Mg hM => ?_)
 ·refine wp_seq ?_
  refine zI <| sM hS rfl fun hS => sA hS rfl fun hS => ?_
  obtain ⟨My, Mh, hS⟩ := hS.nilV 3 (ci .i64) 1
  refine sA hS rfl fun hS => qJ <| wp_ret <| zE ?_
  exact zX (rs := [2, 3]) hS rfl rfl (hret none (0) ([] : List Int) My Mx _ (zn hM) Mh (hS.st.pick [0] (by kernel_rfl)))
 ·refine wp_skip ?_
  refine qf <| qr <| sM hS rfl fun hS => qN hS rfl Tryd.call78 (uJ hG K LF LQ LR (LN.app _) L3 (hS.st.part 0 [0] (by kernel_rfl)) (qv hM) (fun LZ MD w hM Ma hst => qG hS.ev hst.appF rfl fun hS => ?_))
  replace hS : Ss _ _ _ H [L9] F _ _ := hS
  refine sM hS rfl fun hS => sO hS (ex rfl rfl) rfl fun hS => sO hS (ex rfl rfl) rfl fun hS => QP ((List.replicate 16 (0 : Int)).flatMap (ci .i64)) hS Tryd.zeroValue136 rfl rfl fun w Mz ME Mi hS => X6 (xs := (List.replicate 16 (0 : Int))) (ys := LZ) (g := (ci .i64)) (pre := []) (post := []) 0 hS rfl rfl Mi rfl (by simp) rfl (xh (g := (ci .i64)) (sz := 1) (fun _ => rfl) (List.length_replicate ..)) (xh (g := (ci .i64)) (sz := 1) (fun _ => rfl) Ma) (xH) Tryd.sizeOf136 fun w Mj LS hS => ?_
  replace LS : xO Mj Mz (LZ.flatMap (ci .i64)) 136 := by simpa using LS
  refine sA hS rfl fun hS => qJ <| qr <| sO hS (Yc (xs := LZ) (g := (ci .i64)) (pre := []) (post := []) 0 rfl LS rfl (by simp) rfl (xh (g := (ci .i64)) (sz := 1) (fun _ => rfl) Ma) Tryd.isAgg136 Tryd.sizeOf136) rfl fun hS => qN hS rfl Tryd.call79 (u6 hG K LZ Ma (hS.st.part 0 [0, 1] (by kernel_rfl)) (qv hM) (fun Mb w hM Mk hst => qG hS.ev hst.appF rfl fun hS => ?_))
  replace hS : Ss _ _ _ H [Mj, L9] F _ _ := hS
  refine QP ((List.replicate 16 (0 : Int)).flatMap (ci .i64)) hS Tryd.zeroValue136 rfl rfl fun w L0 MF Ml hS => X6 (xs := (List.replicate 16 (0 : Int))) (ys := Mb) (g := (ci .i64)) (pre := []) (post := []) 0 hS rfl rfl Ml rfl (by simp) rfl (xh (g := (ci .i64)) (sz := 1) (fun _ => rfl) (List.length_replicate ..)) (xh (g := (ci .i64)) (sz := 1) (fun _ => rfl) Mk) (xH) Tryd.sizeOf136 fun w Mm LT hS => ?_
  replace LT : xO Mm L0 (Mb.flatMap (ci .i64)) 136 := by simpa using LT
  refine qJ <| qr <| sM hS rfl fun hS => sO hS (ym rfl Tryd.runUnderlying45) rfl fun hS => ?_
  obtain ⟨Mn, hM⟩ := qH hM
  refine Bq (g := (ci .i64)) (m := (LF.length : Int)) (0 : Int) hS rfl rfl (by simp) Tryd.runUnderlying45 X.el3 (fun w => ⟨_, Tryd.zeroValue3 w, rfl⟩) (fun _ => rfl) rfl rfl Mn rfl fun Mp w LK LL MA hz Mq hS => ?_
  have hM := qE hz hM; clear hz
  refine sA hS rfl fun hS => qJ <| wp_seq <| qr <| sM hS rfl fun hS => sO hS (ym rfl Tryd.runUnderlying45) rfl fun hS => sM hS rfl fun hS => qJ <| xG <| zt (fun Mr a w => ∃ (LG : (List Int)) (L1 : qp) (LH : (List Int)) (LU : qp) (LM : Int), Ss 48 [] [(7, qO L0 0), (8, .slice LK LH.length LL), (26, .slice LQ LF.length LR), (27, .int .i64 (LF.length : Int)), (28, .int .i64 LM)] H [L1, LU] F a w ∧ (LG.length = 16) ∧ (xO L1 L0 (LG.flatMap (ci .i64)) 136) ∧ (xb 3 (ci .i64) 1 LK LH LL LU) ∧ (yb.l1 K LF Mr LG LH LM).wp kr kp) K ?_ ?_ ?_
  ·exact ⟨Mb, Mm, Mp, MA, (0 : Int), hS.to [1, 0] (by kernel_rfl) ⟨rfl, rfl, rfl, rfl, rfl, trivial⟩, Mk, LT, Mq, hM⟩
  ·intro a w hI; obtain ⟨_, _, _, _, _, _, _, _, _, hM⟩ := hI; exact zm hM
  ·intro Mr a w hI MG L4
   obtain ⟨LG, L1, LH, LU, LM, hS, LJ, LO, LP, hM⟩ := hI
   rw [yb.l1] at hM
   refine qr <| sB hS rfl fun hS => qJ <| wp_seq <| qI hS rfl hM (fun Ms hM => ?_) (fun Ms hM => ?_)
   ·refine wp_skip ?_
    refine qf <| wp_seq <| xG <| qr <| sM hS rfl fun hS => ?_
    obtain ⟨L5, hM⟩ := qH hM
    refine sO hS (xZ rfl rfl Tryd.runUnderlying45 Tryd.sizeOf3 LN.wk (fun _ => rfl) rfl L5) rfl fun hS => sO hS (yH rfl LN.wk (fun _ => rfl) L5 rfl Tryd.isAgg3) rfl fun hS => sA hS rfl fun hS => zF (v := Value.int .i64) (x0 := (rd LF LM)) hS (xB rfl) rfl fun LV a w hz hS => ?_
    have hM := qE hz hM; clear hz
    refine qJ <| qr <| sM hS rfl fun hS => sB hS rfl fun hS => qJ <| qI hS rfl hM (fun Mt hM => ?_) (fun Mt hM => ?_)
    ·refine wp_seq ?_
     refine zI <| sM hS rfl fun hS => sM hS rfl fun hS => sM hS rfl fun hS => ?_
     obtain ⟨LI, hM⟩ := qH hM
     refine sO hS (Vk rfl rfl Tryd.runUnderlying136 Tryd.sizeOf3 LI) rfl fun hS => sO hS (Gx (xs := LG) (g := (ci .i64)) (pre := []) (post := []) 0 rfl LO rfl (by simp) rfl (fun _ => rfl) (y8 LJ LI) rfl Tryd.isAgg3) rfl fun hS => ?_
     obtain ⟨L6, hM⟩ := qH hM
     refine sO hS (xZ rfl rfl Tryd.runUnderlying45 Tryd.sizeOf3 (LP.rd (i := 1) rfl) (fun _ => rfl) rfl L6) rfl fun hS => JB (i := LM) (sz := 1) 1 0 ((rd LG LV)) hS rfl rfl LP rfl Tryd.sizeOf3 (xH (rd LG LV)) (fun _ => rfl) L6 rfl rfl fun LW w MB hz L7 Mu hS => ?_
     have hM := qE hz hM; clear hz
     replace hS := hS.re 8 (u := .slice LK LH.length LL) (v := .slice LK LW.length LL) rfl (by rw [L7])
     replace hS := hS.re 35 (u := .slice LK LH.length LL) (v := .slice LK LW.length LL) rfl (by rw [L7])
     refine qJ <| zI <| sM hS rfl fun hS => sO hS (Vk rfl rfl Tryd.runUnderlying136 Tryd.sizeOf3 LI) rfl fun hS => sO hS (Gx (xs := LG) (g := (ci .i64)) (pre := []) (post := []) 0 rfl LO rfl (by simp) rfl (fun _ => rfl) (y8 LJ LI) rfl Tryd.isAgg3) rfl fun hS => sB hS rfl fun hS => sO hS (Vk rfl rfl Tryd.runUnderlying136 Tryd.sizeOf3 LI) rfl fun hS => Bt (xs := LG) (g := (ci .i64)) (pre := []) (post := []) 0 ((qh ((rd LG LV) + (1 : Int)))) hS rfl rfl LO rfl (by simp) rfl (fun _ => rfl) (y8 LJ LI) rfl Tryd.sizeOf3 (xH _) fun LX w Mv hz LY hS => ?_
     have Mw : LX.length = 16 := by rw [hz, List.length_set]; exact LJ
     have hM := qE hz hM; clear hz
     replace LY : xO Mv L0 (LX.flatMap (ci .i64)) 136 := by simpa using LY
     refine zg <| zw (qf ?_)
     refine zI <| sB hS rfl fun hS => sM hS rfl fun hS => zg <| qf ?_
     exact L4 _ _ ⟨LX, Mv, LW, MB, (qh (LM + (1 : Int))), hS.to [0, 1] (by kernel_rfl) ⟨rfl, rfl, rfl, rfl, rfl, trivial⟩, Mw, LY, Mu, hM⟩
    ·refine wp_skip ?_
     refine zw (qf ?_)
     refine zI <| sB hS rfl fun hS => sM hS rfl fun hS => zg <| qf ?_
     exact L4 _ _ ⟨LG, L1, LH, LU, (qh (LM + (1 : Int))), hS.to [0, 1] (by kernel_rfl) ⟨rfl, rfl, rfl, rfl, rfl, trivial⟩, LJ, LO, LP, hM⟩
   ·refine wp_exit ?_
    refine qC (qC (q9 (qf ?_)))
    refine qr <| sM hS rfl fun hS => sA hS rfl fun hS => sA hS rfl fun hS => qJ <| wp_ret ?_
    exact zX (rs := [2, 3]) hS rfl rfl (hret LK LL LH LU (0 : Int) _ (zn hM) LP (hS.st.pick [1] (by kernel_rfl)))
theorem y3 {H : xT} {F : List qp} {w : World} {R : Ending → World → Prop} {kr : (List Int) → Prop} {kp : Value → Prop} (hG : Gl H) (K : Nat) (LF : List Int) (LH : Option Addr) (LI : Nat) (LM : jQ H [] F (ci .i64) LH LF) (LN : LF.length ≤ LI)
    (hS : St w H [] F) (hm : (yh.m K LF).wp kr kp)
    (hret : ∀ (LO : Option Addr) (LP : Nat) (LG : (List Int)) (LQ : qp) (w : World), kr LG → (xb 3 (ci .i64) 1 LO LG LP LQ) → St w H [LQ] F → R (.returned (.agg ⟨[.slice LH LF.length LI, .slice LO LG.length LP]⟩)) w) :
    Calls Tryd.prog 37 ⟨[.slice LH LF.length LI]⟩ w R := by
 refine enter Tryd.func37 rfl Tryd.ntmps37 rfl hS fun a w hS => ?_
 have hM := hm; clear hm
 rw [yh.m] at hM
 refine qr <| QP ([.slice none 0 0, .slice none 0 0]) hS Tryd.zeroValue47 rfl rfl fun w L0 LU LR hS => ?_
 obtain ⟨LV, LY, hS⟩ := hS.nilV 3 (ci .i64) 1
 obtain ⟨LW, LZ, hS⟩ := hS.nilV 3 (ci .i64) 1
 refine qJ <| qr <| sM hS rfl fun hS => qN hS rfl Tryd.call53 (Jf hG K LF LH LI (LM.app _) LN (hS.st.part 0 [0, 1, 2] (by kernel_rfl)) (qv hM) (fun LJ LK LL LS L1 w hM LX hst => qG hS.ev hst.appF rfl fun hS => ?_))
 replace hS : Ss _ _ _ H [LS, LW, LV, LU] F _ _ := hS
 refine sM hS rfl fun hS => sO hS (ex rfl rfl) rfl fun hS => sO hS (ex rfl rfl) rfl fun hS => sA hS rfl fun hS => sA hS rfl fun hS => qJ <| qr <| sM hS rfl fun hS => sM hS rfl fun hS => sO hS (X4 ([.slice LH LF.length LI, .slice LJ LL.length LK]) [(0, 1), (1, 1)] Tryd.zeroValue47 Tryd.runUnderlying47 (by intro w; simp [Tryd.sizeOf45]) rfl rfl) rfl fun hS => Zo 3 ([.slice LH LF.length LI, .slice LJ LL.length LK]) ([.slice LH LF.length LI, .slice LJ LL.length LK]) hS rfl rfl LR rfl rfl Tryd.sizeOf47 (by simp [Value.oneCell']) (Nat.le_of_ble_eq_true rfl) rfl fun w L3 LT hS => qJ <| wp_ret ?_
 exact jU (vs := [.agg ⟨[.slice LH LF.length LI, .slice LJ LL.length LK]⟩]) hS rfl (by exact ⟨Bn 3 ([.slice LH LF.length LI, .slice LJ LL.length LK]) rfl LT rfl rfl rfl Tryd.isAgg47 Tryd.sizeOf47, trivial⟩) (hret LJ LK LL LS _ (zn hM) LX (hS.st.pick [0] (by kernel_rfl)))
theorem Qu {H : xT} {F : List qp} {w : World} {R : Ending → World → Prop} {kr : ((List Int) × (List Int) × (List Int) × (List Int)) → Prop} {kp : Value → Prop} (hG : Gl H) (K : Nat)
    (hS : St w H [] F) (hm : (zb.m K).wp kr kp)
    (hret : ∀ (Mw : Option Addr) (Mx : Nat) (LL : (List Int)) (My : qp) (Mz : Option Addr) (MA : Nat) (LQ : (List Int)) (MB : qp) (MC : Option Addr) (MD : Nat) (LM : (List Int)) (ME : qp) (MF : Option Addr) (MG : Nat) (LR : (List Int)) (MH : qp) (w : World), kr (LL, LQ, LM, LR) → (xb 3 (ci .i64) 1 Mw LL Mx My) → (xb 3 (ci .i64) 1 Mz LQ MA MB) → (xb 3 (ci .i64) 1 MC LM MD ME) → (xb 3 (ci .i64) 1 MF LR MG MH) → St w H [My, MB, ME, MH] F → R (.returned (.tuple ⟨[.agg ⟨[.slice Mw LL.length Mx, .slice Mz LQ.length MA]⟩, .agg ⟨[.slice MC LM.length MD, .slice MF LR.length MG]⟩]⟩)) w) :
    Calls Tryd.prog 22 ⟨[]⟩ w R := by
 refine enter Tryd.func22 rfl Tryd.ntmps22 rfl hS fun a w hS => ?_
 have hM := hm; clear hm
 rw [zb.m] at hM
 refine qr <| QP ([.slice none 0 0, .slice none 0 0]) hS Tryd.zeroValue47 rfl rfl fun w M5 Mu M6 hS => ?_
 obtain ⟨Mv, Ng, hS⟩ := hS.nilV 3 (ci .i64) 1
 obtain ⟨LW, Nh, hS⟩ := hS.nilV 3 (ci .i64) 1
 refine QP ([.slice none 0 0, .slice none 0 0]) hS Tryd.zeroValue47 rfl rfl fun w Mh LX MI hS => ?_
 obtain ⟨LY, Ni, hS⟩ := hS.nilV 3 (ci .i64) 1
 obtain ⟨LZ, Nj, hS⟩ := hS.nilV 3 (ci .i64) 1
 refine qJ <| wp_seq <| zI ?_
 obtain ⟨MJ, hM⟩ := qH hM
 refine Bq (g := (ci .i64)) (m := (288 : Int)) (0 : Int) hS rfl rfl (by simp) Tryd.runUnderlying45 X.el3 (fun w => ⟨_, Tryd.zeroValue3 w, rfl⟩) (fun _ => rfl) rfl rfl MJ rfl fun L1 w LF LG M7 hz MK hS => ?_
 have hM := qE hz hM; clear hz
 refine sA hS rfl fun hS => qJ <| zc (fun a w => ∃ (LH : (List Int)) (LU : qp), Ss 46 [] [(0, qO M5 0), (1, qO Mh 0), (2, .slice LF LH.length LG)] H [Mu, Mv, LW, LX, LY, LZ, LU] F a w ∧ (xb 3 (ci .i64) 1 LF LH LG LU) ∧ (zb.j2 K LH).wp kr kp) (fun Nk ML => ?_) ?_
 ·refine wp_seq ?_
  refine zI <| sM hS rfl fun hS => sO hS (ym rfl Tryd.runUnderlying45) rfl fun hS => sM hS rfl fun hS => qJ <| xG <| zt (fun MM a w => ∃ (LI : (List Int)) (Mi : qp) (LN : Int), Ss 46 [] [(0, qO M5 0), (1, qO Mh 0), (2, .slice LF LI.length LG), (8, .int .i64 (L1.length : Int)), (9, .int .i64 LN)] H [Mu, Mv, LW, LX, LY, LZ, Mi] F a w ∧ (xb 3 (ci .i64) 1 LF LI LG Mi) ∧ (zb.l1 K L1 MM LI LN).wp kr kp) K ?_ ?_ ?_
  ·exact ⟨L1, M7, (0 : Int), hS.to [6, 5, 4, 3, 2, 1, 0] (by kernel_rfl) ⟨rfl, rfl, rfl, rfl, rfl, trivial⟩, MK, hM⟩
  ·intro a w hI; obtain ⟨_, _, _, _, _, hM⟩ := hI; exact zm hM
  ·intro MM a w hI Nl L3
   obtain ⟨LI, Mi, LN, hS, LS, hM⟩ := hI
   rw [zb.l1] at hM
   refine qr <| sB hS rfl fun hS => qJ <| wp_seq <| qI hS rfl hM (fun MN hM => ?_) (fun MN hM => ?_)
   ·refine wp_skip ?_
    refine qf <| wp_seq <| xG <| qr <| sM hS rfl fun hS => sA hS rfl fun hS => qJ <| xG <| qr <| sM hS rfl fun hS => sB hS rfl fun hS => sM hS rfl fun hS => y9 2 false 18 (b := (decide (LN < (144 : Int)))) (r := (decide (LN ≥ (280 : Int)))) hS rfl rfl rfl rfl rfl rfl rfl (fun hb a w hS K hK => ?_) rfl fun a w hS => ?_
    ·refine z3 hS rfl rfl rfl hb (mv rfl) rfl fun a w hS => ?_
     refine z3 hS rfl rfl rfl hb (jA rfl rfl rfl) rfl fun a w hS => ?_
     exact zg (hK _ _ (hS.up 2 rfl rfl))
    refine zF (v := Value.bool) (x0 := ((decide (LN < (144 : Int))) || (decide (LN ≥ (280 : Int))))) hS (xB rfl) rfl fun Nm a w hz hS => ?_
    have hM := qE hz hM; clear hz
    refine qJ <| qI hS rfl hM (fun MO hM => ?_) (fun MO hM => ?_)
    ·refine zI ?_
     refine sM hS rfl fun hS => sM hS rfl fun hS => ?_
     obtain ⟨Mk, hM⟩ := qH hM
     refine sO hS (xZ rfl rfl Tryd.runUnderlying45 Tryd.sizeOf3 (LS.rd (i := 6) rfl) (fun _ => rfl) rfl Mk) rfl fun hS => JB (i := LN) (sz := 1) 6 0 ((8 : Int)) hS rfl rfl LS rfl Tryd.sizeOf3 (xH (8 : Int)) (fun _ => rfl) Mk rfl rfl fun L4 w M8 hz Ml MP hS => ?_
     have hM := qE hz hM; clear hz
     replace hS := hS.re 2 (u := .slice LF LI.length LG) (v := .slice LF L4.length LG) rfl (by rw [Ml])
     replace hS := hS.re 22 (u := .slice LF LI.length LG) (v := .slice LF L4.length LG) rfl (by rw [Ml])
     refine zg <| zw (zw (qf ?_))
     refine zI <| sB hS rfl fun hS => sM hS rfl fun hS => zg <| qf ?_
     exact L3 _ _ ⟨L4, M8, (qh (LN + (1 : Int))), hS.to [0, 1, 2, 3, 4, 5, 6] (by kernel_rfl) ⟨rfl, rfl, rfl, rfl, rfl, trivial⟩, MP, hM⟩
    ·refine wp_seq ?_
     refine zI <| sM hS rfl fun hS => sB hS rfl fun hS => zF (v := Value.bool) (x0 := (decide (LN < (256 : Int)))) hS (xB rfl) rfl fun Nn a w hz hS => ?_
     have hM := qE hz hM; clear hz
     refine qJ <| qI hS rfl hM (fun MQ hM => ?_) (fun MQ hM => ?_)
     ·refine zI ?_
      refine sM hS rfl fun hS => sM hS rfl fun hS => ?_
      obtain ⟨Mm, hM⟩ := qH hM
      refine sO hS (xZ rfl rfl Tryd.runUnderlying45 Tryd.sizeOf3 (LS.rd (i := 6) rfl) (fun _ => rfl) rfl Mm) rfl fun hS => JB (i := LN) (sz := 1) 6 0 ((9 : Int)) hS rfl rfl LS rfl Tryd.sizeOf3 (xH (9 : Int)) (fun _ => rfl) Mm rfl rfl fun L5 w M9 hz Mn MR hS => ?_
      have hM := qE hz hM; clear hz
      replace hS := hS.re 2 (u := .slice LF LI.length LG) (v := .slice LF L5.length LG) rfl (by rw [Mn])
      replace hS := hS.re 28 (u := .slice LF LI.length LG) (v := .slice LF L5.length LG) rfl (by rw [Mn])
      refine zg <| zw (zw (qf ?_))
      refine zI <| sB hS rfl fun hS => sM hS rfl fun hS => zg <| qf ?_
      exact L3 _ _ ⟨L5, M9, (qh (LN + (1 : Int))), hS.to [0, 1, 2, 3, 4, 5, 6] (by kernel_rfl) ⟨rfl, rfl, rfl, rfl, rfl, trivial⟩, MR, hM⟩
     ·refine zI ?_
      refine sM hS rfl fun hS => sM hS rfl fun hS => ?_
      obtain ⟨Mp, hM⟩ := qH hM
      refine sO hS (xZ rfl rfl Tryd.runUnderlying45 Tryd.sizeOf3 (LS.rd (i := 6) rfl) (fun _ => rfl) rfl Mp) rfl fun hS => JB (i := LN) (sz := 1) 6 0 ((7 : Int)) hS rfl rfl LS rfl Tryd.sizeOf3 (xH (7 : Int)) (fun _ => rfl) Mp rfl rfl fun L6 w Na hz Mq MS hS => ?_
      have hM := qE hz hM; clear hz
      replace hS := hS.re 2 (u := .slice LF LI.length LG) (v := .slice LF L6.length LG) rfl (by rw [Mq])
      replace hS := hS.re 12 (u := .slice LF LI.length LG) (v := .slice LF L6.length LG) rfl (by rw [Mq])
      refine zg <| zw (zw (qf ?_))
      refine zI <| sB hS rfl fun hS => sM hS rfl fun hS => zg <| qf ?_
      exact L3 _ _ ⟨L6, Na, (qh (LN + (1 : Int))), hS.to [0, 1, 2, 3, 4, 5, 6] (by kernel_rfl) ⟨rfl, rfl, rfl, rfl, rfl, trivial⟩, MS, hM⟩
   ·refine wp_exit ?_
    refine qC (qC (q9 (qf ?_)))
    exact ML _ _ ⟨LI, Mi, hS.to [0, 1, 2, 3, 4, 5, 6] (by kernel_rfl) ⟨rfl, rfl, rfl, trivial⟩, LS, hM⟩
 ·intro a w hI
  obtain ⟨LH, LU, hS, L7, hM⟩ := hI
  rw [zb.j2] at hM
  refine wp_seq <| zI ?_
  obtain ⟨MT, hM⟩ := qH hM
  refine Bq (g := (ci .i64)) (m := (32 : Int)) (0 : Int) hS rfl rfl (by simp) Tryd.runUnderlying45 X.el3 (fun w => ⟨_, Tryd.zeroValue3 w, rfl⟩) (fun _ => rfl) rfl rfl MT rfl fun L8 w LO LP Nb hz MU hS => ?_
  have hM := qE hz hM; clear hz
  refine sA hS rfl fun hS => qJ <| zc (fun a w => ∃ (LT : (List Int)) (L0 : qp), Ss 46 [] [(0, qO M5 0), (1, qO Mh 0), (2, .slice LF LH.length LG), (4, .slice LO LT.length LP)] H [Mu, Mv, LW, LX, LY, LZ, LU, L0] F a w ∧ (xb 3 (ci .i64) 1 LO LT LP L0) ∧ (zb.j4 K LH LT).wp kr kp) (fun No MV => ?_) ?_
  ·refine wp_seq ?_
   refine zI <| sM hS rfl fun hS => sO hS (ym rfl Tryd.runUnderlying45) rfl fun hS => sM hS rfl fun hS => qJ <| xG <| zt (fun MW a w => ∃ (LV : (List Int)) (Mj : qp) (L9 : Int), Ss 46 [] [(0, qO M5 0), (1, qO Mh 0), (2, .slice LF LH.length LG), (4, .slice LO LV.length LP), (34, .int .i64 (L8.length : Int)), (35, .int .i64 L9)] H [Mu, Mv, LW, LX, LY, LZ, LU, Mj] F a w ∧ (xb 3 (ci .i64) 1 LO LV LP Mj) ∧ (zb.l3 K LH L8 MW LV L9).wp kr kp) K ?_ ?_ ?_
   ·exact ⟨L8, Nb, (0 : Int), hS.to [1, 2, 3, 4, 5, 6, 7, 0] (by kernel_rfl) ⟨rfl, rfl, rfl, rfl, rfl, rfl, trivial⟩, MU, hM⟩
   ·intro a w hI; obtain ⟨_, _, _, _, _, hM⟩ := hI; exact zm hM
   ·intro MW a w hI Np MX
    obtain ⟨LV, Mj, L9, hS, Ma, hM⟩ := hI
    rw [zb.l3] at hM
    refine qr <| sB hS rfl fun hS => qJ <| wp_seq <| qI hS rfl hM (fun MY hM => ?_) (fun MY hM => ?_)
    ·refine wp_skip ?_
     refine qf <| wp_seq <| xG <| qr <| sM hS rfl fun hS => sA hS rfl fun hS => qJ <| zI <| sM hS rfl fun hS => sM hS rfl fun hS => ?_
     obtain ⟨Mr, hM⟩ := qH hM
     refine sO hS (xZ rfl rfl Tryd.runUnderlying45 Tryd.sizeOf3 (Ma.rd (i := 7) rfl) (fun _ => rfl) rfl Mr) rfl fun hS => JB (i := L9) (sz := 1) 7 0 ((5 : Int)) hS rfl rfl Ma rfl Tryd.sizeOf3 (xH (5 : Int)) (fun _ => rfl) Mr rfl rfl fun Mb w Nc hz Ms MZ hS => ?_
     have hM := qE hz hM; clear hz
     replace hS := hS.re 4 (u := .slice LO LV.length LP) (v := .slice LO Mb.length LP) rfl (by rw [Ms])
     replace hS := hS.re 38 (u := .slice LO LV.length LP) (v := .slice LO Mb.length LP) rfl (by rw [Ms])
     refine zg <| zw (qf ?_)
     refine zI <| sB hS rfl fun hS => sM hS rfl fun hS => zg <| qf ?_
     exact MX _ _ ⟨Mb, Nc, (qh (L9 + (1 : Int))), hS.to [0, 1, 2, 3, 4, 5, 6, 7] (by kernel_rfl) ⟨rfl, rfl, rfl, rfl, rfl, rfl, trivial⟩, MZ, hM⟩
    ·refine wp_exit ?_
     refine qC (qC (q9 (qf ?_)))
     exact MV _ _ ⟨LV, Mj, hS.to [0, 1, 2, 3, 4, 5, 6, 7] (by kernel_rfl) ⟨rfl, rfl, rfl, rfl, trivial⟩, Ma, hM⟩
  ·intro a w hI
   obtain ⟨LT, L0, hS, Mc, hM⟩ := hI
   rw [zb.j4] at hM
   refine qr <| sM hS rfl fun hS => qN hS rfl Tryd.call37 (y3 hG K LH LF LG (L7.rdF (i := 6) rfl) (L7.cap (fun _ => rfl) rfl) (hS.st.part 0 [0, 1, 2, 3, 4, 5, 6, 7] (by kernel_rfl)) (qv hM) (fun Md Me LJ Mt w hM Nd hst => qG hS.ev hst.appF rfl fun hS => ?_))
   replace hS : Ss _ _ _ H [Mt, Mu, Mv, LW, LX, LY, LZ, LU, L0] F _ _ := hS
   refine sM hS rfl fun hS => qN hS rfl Tryd.call37 (y3 hG K LT LO LP (Mc.rdF (i := 8) rfl) (Mc.cap (fun _ => rfl) rfl) (hS.st.part 0 [0, 1, 2, 3, 4, 5, 6, 7, 8] (by kernel_rfl)) (qv hM) (fun Mf Mg LK M0 w hM Nf hst => qG hS.ev hst.appF rfl fun hS => ?_))
   replace hS : Ss _ _ _ H [M0, Mt, Mu, Mv, LW, LX, LY, LZ, LU, L0] F _ _ := hS
   refine Zo 2 ([.slice LF LH.length LG, .slice Md LJ.length Me]) ([.slice LF LH.length LG, .slice Md LJ.length Me]) hS rfl rfl M6 rfl rfl Tryd.sizeOf47 (by simp [Value.oneCell']) (Nat.le_of_ble_eq_true rfl) rfl fun w Nq M3 hS => Zo 5 ([.slice LO LT.length LP, .slice Mf LK.length Mg]) ([.slice LO LT.length LP, .slice Mf LK.length Mg]) hS rfl rfl MI rfl rfl Tryd.sizeOf47 (by simp [Value.oneCell']) (Nat.le_of_ble_eq_true rfl) rfl fun w Nr M4 hS => qJ <| wp_ret ?_
   exact jU (vs := [.agg ⟨[.slice LF LH.length LG, .slice Md LJ.length Me]⟩, .agg ⟨[.slice LO LT.length LP, .slice Mf LK.length Mg]⟩]) hS rfl (by exact ⟨Bn 2 ([.slice LF LH.length LG, .slice Md LJ.length Me]) rfl M3 rfl rfl rfl Tryd.isAgg47 Tryd.sizeOf47, Bn 5 ([.slice LO LT.length LP, .slice Mf LK.length Mg]) rfl M4 rfl rfl rfl Tryd.isAgg47 Tryd.sizeOf47, trivial⟩) (hret LF LG LH LU Md Me LJ Mt LO LP LT L0 Mf Mg LK M0 _ (zn hM) L7 Nd Mc Nf (hS.st.pick [8, 1, 9, 0] (by kernel_rfl)))
theorem zk {H : xT} {F : List qp} {w : World} {R : Ending → World → Prop} {kr : (Int × Int × (List Int)) → Prop} {kp : Value → Prop} (hG : Gl H) (K : Nat) (LG : qs) (Mf : Int) (LO : Int) (LJ : Nat) (Mg : qp) (Mh : Option Addr) (Mi : Nat) (Mj : qp) (LQ : Option Addr) (LR : Nat) (L4 : qp) (LS : Option Addr) (LT : Nat) (L5 : qp) (LU : Option Addr) (LV : Nat) (L6 : qp) (LW : Option Addr) (LX : Nat) (L7 : qp) (Ml : xO Mg LJ ([.int .i64 LG.Writer_.place_.at_, .slice Mh LG.Writer_.bytes_.length Mi, .slice LQ LG.literals_.lengths_.length LR, .slice LS LG.literals_.codes_.length LT, .slice LU LG.distances_.lengths_.length LV, .slice LW LG.distances_.codes_.length LX]) 49) (Mm : xb 5 (ci .u8) 1 Mh LG.Writer_.bytes_ Mi Mj) (MV : xb 3 (ci .i64) 1 LQ LG.literals_.lengths_ LR L4) (MW : xb 3 (ci .i64) 1 LS LG.literals_.codes_ LT L5) (MX : xb 3 (ci .i64) 1 LU LG.distances_.lengths_ LV L6) (MY : xb 3 (ci .i64) 1 LW LG.distances_.codes_ LX L7)
    (hS : St w H [Mg, Mj, L4, L5, L6, L7] F) (hm : (qq.m K LG Mf LO).wp kr kp)
    (hret : ∀ (Mu : Int) (L8 : Int) (Mv : Option Addr) (Mw : Nat) (LP : (List Int)) (Mx : qp) (My : qp) (w : World), kr (Mu, L8, LP) → (xb 5 (ci .u8) 1 Mv LP Mw Mx) → (xO My LJ ([.int .i64 L8, .slice Mv LP.length Mw, .slice LQ LG.literals_.lengths_.length LR, .slice LS LG.literals_.codes_.length LT, .slice LU LG.distances_.lengths_.length LV, .slice LW LG.distances_.codes_.length LX]) 49) → St w H [My, Mx, L4, L5, L6, L7] F → R (.returned (.int .i64 Mu)) w) :
    Calls Tryd.prog 23 ⟨[qO LJ 0, .int .u32 Mf, .int .i64 LO]⟩ w R := by
 refine enter Tryd.func23 rfl Tryd.ntmps23 rfl hS fun a w hS => ?_
 have hM := hm; clear hm
 rw [qq.m] at hM
 refine qr <| sA hS rfl fun hS => qJ <| wp_seq <| qr <| sM hS rfl fun hS => sO hS (XJ rfl rfl Tryd.runUnderlying103) rfl fun hS => sM hS rfl fun hS => z3 hS rfl rfl rfl rfl (mv rfl) rfl fun a w hS => z3 hS rfl rfl rfl rfl (jA rfl rfl rfl) rfl fun a w hS => sO hS (pk rfl rfl rfl) rfl fun hS => sM hS rfl fun hS => y9 2 false 14 (b := (decide (LO < (0 : Int)))) (r := (decide (LO > (32 : Int)))) hS rfl rfl rfl rfl rfl rfl rfl (fun hb a w hS K hK => ?_) rfl fun a w hS => ?_
 ·refine z3 hS rfl rfl rfl hb (mv rfl) rfl fun a w hS => ?_
  refine z3 hS rfl rfl rfl hb (jA rfl rfl rfl) rfl fun a w hS => ?_
  exact zg (hK _ _ (hS.up 2 rfl rfl))
 refine sM hS rfl fun hS => ?_
 obtain ⟨Mz, hM⟩ := qH hM
 refine y9 5 false 18 (b := ((decide (LO < (0 : Int))) || (decide (LO > (32 : Int))))) (r := (decide ((xF .u64 (wr .u64 Mf) LO) > (0 : Int)))) hS rfl rfl rfl rfl rfl rfl rfl (fun hb a w hS K hK => ?_) rfl fun a w hS => ?_
 ·refine z3 hS rfl rfl rfl hb (mv rfl) rfl fun a w hS => ?_
  refine z3 hS rfl rfl rfl hb (u2 rfl Tryd.runUnderlying53 Tryd.runUnderlying104) rfl fun a w hS => z3 hS rfl rfl rfl hb (mv rfl) rfl fun a w hS => ?_
  have MA := DM Mz hb
  refine z3 hS rfl rfl rfl hb (shr rfl rfl MA) rfl fun a w hS => z3 hS rfl rfl rfl hb (jA rfl rfl rfl) rfl fun a w hS => ?_
  exact zg (hK _ _ (hS.up 5 rfl rfl))
 refine qJ <| qI hS rfl hM (fun MB hM => ?_) (fun MB hM => ?_)
 ·refine wp_seq ?_
  refine zI <| sA hS rfl fun hS => qJ <| wp_ret <| zE ?_
  exact zX (rs := [6]) hS rfl rfl (hret (1 : Int) LG.Writer_.place_.at_ Mh Mi LG.Writer_.bytes_ Mj Mg _ (zn hM) Mm Ml (hS.st.pick [0, 1, 2, 3, 4, 5] (by kernel_rfl)))
 ·refine wp_skip ?_
  refine qf <| wp_seq <| xG <| zt (fun Ms a w => ∃ (LF : Int) (L9 : Option Addr) (Ma : Nat) (LK : (List Int)) (Mb : qp) (Mc : qp) (LL : Int) (LM : Int), Ss 95 [] [(0, qO LJ 0), (1, .int .u32 LL), (2, .int .i64 LM)] H [Mc, Mb, L4, L5, L6, L7] F a w ∧ (xb 5 (ci .u8) 1 L9 LK Ma Mb) ∧ (xO Mc LJ ([.int .i64 LF, .slice L9 LK.length Ma, .slice LQ LG.literals_.lengths_.length LR, .slice LS LG.literals_.codes_.length LT, .slice LU LG.distances_.lengths_.length LV, .slice LW LG.distances_.codes_.length LX]) 49) ∧ (qq.l1 K Ms LF LK LL LM).wp kr kp) K ?_ ?_ ?_
  ·exact ⟨LG.Writer_.place_.at_, Mh, Mi, LG.Writer_.bytes_, Mj, Mg, Mf, LO, hS.to [0, 1, 2, 3, 4, 5] (by kernel_rfl) ⟨rfl, rfl, rfl, trivial⟩, Mm, Ml, hM⟩
  ·intro a w hI; obtain ⟨_, _, _, _, _, _, _, _, _, _, _, hM⟩ := hI; exact zm hM
  ·intro Ms a w hI MZ MC
   obtain ⟨LF, L9, Ma, LK, Mb, Mc, LL, LM, hS, Md, LY, hM⟩ := hI
   rw [qq.l1] at hM
   refine wp_seq <| qr <| sM hS rfl fun hS => sB hS rfl fun hS => qJ <| qI hS rfl hM (fun MD hM => ?_) (fun MD hM => ?_)
   ·refine wp_skip ?_
    refine qf <| xG <| zc (fun a w => ∃ (LN : Option Addr) (LZ : Nat) (LI : (List Int)) (Mt : qp) (Mk : qp), Ss 95 [] [(0, qO LJ 0), (1, .int .u32 LL), (2, .int .i64 LM)] H [Mk, Mt, L4, L5, L6, L7] F a w ∧ (xb 5 (ci .u8) 1 LN LI LZ Mt) ∧ (xO Mk LJ ([.int .i64 LF, .slice LN LI.length LZ, .slice LQ LG.literals_.lengths_.length LR, .slice LS LG.literals_.codes_.length LT, .slice LU LG.distances_.lengths_.length LV, .slice LW LG.distances_.codes_.length LX]) 49) ∧ (qq.j2 K (qq.l1 K Ms) LF LL LM LI).wp kr kp) (fun M0 Mn => ?_) ?_
    ·refine wp_seq ?_
     refine zI <| sM hS rfl fun hS => sO hS (yv rfl) rfl fun hS => sO hS (xz rfl Tryd.runUnderlying44 rfl Tryd.sizeOf42 rfl) rfl fun hS => sO hS (xz rfl Tryd.runUnderlying42 rfl Tryd.sizeOf3 rfl) rfl fun hS => sO hS (ye 0 rfl LY rfl rfl Tryd.isAgg3) rfl fun hS => sB hS rfl fun hS => sB hS rfl fun hS => qJ <| qI hS rfl hM (fun ME hM => ?_) (fun ME hM => ?_)
     ·refine zI ?_
      refine sM hS rfl fun hS => sM hS rfl fun hS => sO hS (yv rfl) rfl fun hS => sO hS (xz rfl Tryd.runUnderlying44 rfl Tryd.sizeOf38 rfl) rfl fun hS => sO hS (ye 0 rfl LY rfl rfl Tryd.isAgg38) rfl fun hS => Yx (g := (ci .u8)) ([(0 : Int)] : List Int) [.int .u8 (0 : Int)] hS Tryd.runUnderlying38 Tryd.sizeOf5 X.el5 rfl rfl rfl (by simp [Value.cells]) rfl rfl rfl rfl rfl fun w M3 M4 M5 MF hS => ?_
      obtain ⟨MG, hM⟩ := qH hM
      refine Jm (ys := ([(0 : Int)] : List Int)) 2 hS rfl rfl Md rfl (MF.rd (i := 0) rfl) Tryd.runUnderlying38 Tryd.runUnderlying38 X.el5 (fun _ => rfl) rfl QZ MG rfl fun Mp w MH MI MQ hz MJ hS => ?_
      have hM := qE hz hM; clear hz
      refine sO hS (yv rfl) rfl fun hS => sO hS (xz rfl Tryd.runUnderlying44 rfl Tryd.sizeOf38 rfl) rfl fun hS => Jn 1 ([.int .i64 LF, .slice MH Mp.length MI, .slice LQ LG.literals_.lengths_.length LR, .slice LS LG.literals_.codes_.length LT, .slice LU LG.distances_.lengths_.length LV, .slice LW LG.distances_.codes_.length LX]) hS rfl rfl LY rfl rfl rfl rfl Tryd.sizeOf38 fun w MR MK hS => zg <| qf ?_
      exact Mn _ _ ⟨MH, MI, Mp, MQ, MR, hS.to [1, 2, 3, 4, 5, 6] (by kernel_rfl) ⟨rfl, rfl, rfl, trivial⟩, MJ, MK, hM⟩
     ·refine wp_skip ?_
      refine qf ?_
      exact Mn _ _ ⟨L9, Ma, LK, Mb, Mc, hS.to [0, 1, 2, 3, 4, 5] (by kernel_rfl) ⟨rfl, rfl, rfl, trivial⟩, Md, LY, hM⟩
    ·intro a w hI
     obtain ⟨LN, LZ, LI, Mt, Mk, hS, L1, L0, hM⟩ := hI
     rw [qq.j2] at hM
     refine qr <| sM hS rfl fun hS => sO hS (yv rfl) rfl fun hS => sO hS (xz rfl Tryd.runUnderlying44 rfl Tryd.sizeOf42 rfl) rfl fun hS => sO hS (xz rfl Tryd.runUnderlying42 rfl Tryd.sizeOf3 rfl) rfl fun hS => sO hS (ye 0 rfl L0 rfl rfl Tryd.isAgg3) rfl fun hS => sB hS rfl fun hS => sB hS rfl fun hS => sM hS rfl fun hS => sO hS (Un rfl rfl) rfl fun hS => zF (v := Value.int .i64) (x0 := (if LM < (qh ((8 : Int) - (xX .i64 LF (7 : Int)))) then LM else (qh ((8 : Int) - (xX .i64 LF (7 : Int)))))) hS (xB rfl) rfl fun LH a w hz hS => ?_
     have hM := qE hz hM; clear hz
     refine qJ <| wp_seq ?_
     obtain ⟨L3, hM⟩ := qH hM
     obtain ⟨Mq, hM⟩ := qH hM
     obtain ⟨ML, hM⟩ := qH hM
     refine q8 (vals := [some (qO LJ 0), some (qO LJ 0), some (qO LJ 1), some (.slice LN LI.length LZ), some (qO LJ 0), some (qO LJ 0), some (qO LJ 0), some (qO LJ 0), some (.int .i64 LF), some (.int .i64 (yD .i64 LF (8 : Int))), some (z8 LN (Int.toNat (yD .i64 LF (8 : Int)) * 1)), some (.int .u8 (rd LI (yD .i64 LF (8 : Int)))), some (.int .u32 LL), some (.int .i64 LH), some (.int .u32 (xf .u32 (1 : Int) LH)), some (.int .u32 (wr .u32 ((xf .u32 (1 : Int) LH) - (1 : Int)))), some (.int .u32 (xX .u32 LL (wr .u32 ((xf .u32 (1 : Int) LH) - (1 : Int))))), some (.int .u8 (wr .u8 (xX .u32 LL (wr .u32 ((xf .u32 (1 : Int) LH) - (1 : Int)))))), some (qO LJ 0), some (qO LJ 0), some (qO LJ 0), some (qO LJ 0), some (.int .i64 LF), some (.int .i64 (xX .i64 LF (7 : Int))), some (.int .u8 (xf .u8 (wr .u8 (xX .u32 LL (wr .u32 ((xf .u32 (1 : Int) LH) - (1 : Int))))) (xX .i64 LF (7 : Int)))), some (.int .u8 (Zv .u8 (rd LI (yD .i64 LF (8 : Int))) (xf .u8 (wr .u8 (xX .u32 LL (wr .u32 ((xf .u32 (1 : Int) LH) - (1 : Int))))) (xX .i64 LF (7 : Int))))), some (z8 LN (Int.toNat (yD .i64 LF (8 : Int)) * 1)), none]) hS xw rfl ?_
     intro l w ho hcl hA hst
     refine yV hA hst ho hcl xk xx 27 [0, 1, 2, 3, 4, 5, 6, 7, 8, 9, 10, 11, 12, 13, 14, 15, 16, 17, 18, 19, 20, 21, 22, 23, 24, 25, 26] rfl rfl rfl rfl rfl (by exact ⟨nM rfl, nQ rfl (by exact qV (yv rfl) rfl), nQ rfl (by exact qV (xz rfl Tryd.runUnderlying44 rfl Tryd.sizeOf38 rfl) rfl), nQ rfl (by exact qV (ye 0 rfl L0 rfl rfl Tryd.isAgg38) rfl), nM rfl, nQ rfl (by exact qV (yv rfl) rfl), nQ rfl (by exact qV (xz rfl Tryd.runUnderlying44 rfl Tryd.sizeOf42 rfl) rfl), nQ rfl (by exact qV (xz rfl Tryd.runUnderlying42 rfl Tryd.sizeOf3 rfl) rfl), nQ rfl (by exact qV (ye 0 rfl L0 rfl rfl Tryd.isAgg3) rfl), nQ rfl (by exact qV (quo rfl rfl rfl) rfl), nQ rfl (by exact qV (xZ rfl rfl Tryd.runUnderlying38 Tryd.sizeOf5 (L1.rd (i := 1) rfl) (fun _ => rfl) rfl L3) rfl), nQ rfl (by exact qV (yH rfl (L1.rd (i := 1) rfl) (fun _ => rfl) L3 rfl Tryd.isAgg5) rfl), nM rfl, nM rfl, nQ rfl (by exact qV (shl rfl rfl Mq) rfl), nB rfl, nB rfl, nQ rfl (by exact qV (u2 rfl Tryd.runUnderlying53 Tryd.runUnderlying5) rfl), nM rfl, nQ rfl (by exact qV (yv rfl) rfl), nQ rfl (by exact qV (xz rfl Tryd.runUnderlying44 rfl Tryd.sizeOf42 rfl) rfl), nQ rfl (by exact qV (xz rfl Tryd.runUnderlying42 rfl Tryd.sizeOf3 rfl) rfl), nQ rfl (by exact qV (ye 0 rfl L0 rfl rfl Tryd.isAgg3) rfl), nB rfl, nQ rfl (by exact qV (shl rfl rfl ML) rfl), nB rfl, nQ rfl (by exact qV (xZ rfl rfl Tryd.runUnderlying38 Tryd.sizeOf5 (L1.rd (i := 1) rfl) (fun _ => rfl) rfl L3) rfl), trivial⟩) fun D l a w ho hcl hav hpre hm hE hk hA hst => ?_
     have hS := (Ss.mk hE hst).env2 (e' := [(77, .int .u8 (Zv .u8 (rd LI (yD .i64 LF (8 : Int))) (xf .u8 (wr .u8 (xX .u32 LL (wr .u32 ((xf .u32 (1 : Int) LH) - (1 : Int))))) (xX .i64 LF (7 : Int))))), (78, z8 LN (Int.toNat (yD .i64 LF (8 : Int)) * 1))]) ⟨rfl, rfl, trivial⟩
     refine qR rfl <| JB (i := (yD .i64 LF (8 : Int))) (sz := 1) 1 0 ((Zv .u8 (rd LI (yD .i64 LF (8 : Int))) (xf .u8 (wr .u8 (xX .u32 LL (wr .u32 ((xf .u32 (1 : Int) LH) - (1 : Int))))) (xX .i64 LF (7 : Int))))) hS rfl rfl L1 rfl Tryd.sizeOf5 (QZ (Zv .u8 (rd LI (yD .i64 LF (8 : Int))) (xf .u8 (wr .u8 (xX .u32 LL (wr .u32 ((xf .u32 (1 : Int) LH) - (1 : Int))))) (xX .i64 LF (7 : Int))))) (fun _ => rfl) L3 rfl rfl fun Me w MS hz MM MN hS => ?_
     have hM := qE hz hM; clear hz
     have Mr : xO Mk LJ ([.int .i64 LF, .slice LN Me.length LZ, .slice LQ LG.literals_.lengths_.length LR, .slice LS LG.literals_.codes_.length LT, .slice LU LG.distances_.lengths_.length LV, .slice LW LG.distances_.codes_.length LX]) 49 := by rw [MM]; exact L0
     refine qJ ?_
     replace hst := hS.st
     obtain ⟨hcl, hmust, hav2, hA⟩ := Zd (vals' := [some (qO LJ 0), some (qO LJ 0), some (qO LJ 1), some (.slice LN LI.length LZ), some (qO LJ 0), some (qO LJ 0), some (qO LJ 0), some (qO LJ 0), some (.int .i64 LF), some (.int .i64 (yD .i64 LF (8 : Int))), some (z8 LN (Int.toNat (yD .i64 LF (8 : Int)) * 1)), some (.int .u8 (rd LI (yD .i64 LF (8 : Int)))), some (.int .u32 LL), some (.int .i64 LH), some (.int .u32 (xf .u32 (1 : Int) LH)), some (.int .u32 (wr .u32 ((xf .u32 (1 : Int) LH) - (1 : Int)))), some (.int .u32 (xX .u32 LL (wr .u32 ((xf .u32 (1 : Int) LH) - (1 : Int))))), some (.int .u8 (wr .u8 (xX .u32 LL (wr .u32 ((xf .u32 (1 : Int) LH) - (1 : Int)))))), some (qO LJ 0), some (qO LJ 0), some (qO LJ 0), some (qO LJ 0), some (.int .i64 LF), some (.int .i64 (xX .i64 LF (7 : Int))), some (.int .u8 (xf .u8 (wr .u8 (xX .u32 LL (wr .u32 ((xf .u32 (1 : Int) LH) - (1 : Int))))) (xX .i64 LF (7 : Int)))), some (.int .u8 (Zv .u8 (rd LI (yD .i64 LF (8 : Int))) (xf .u8 (wr .u8 (xX .u32 LL (wr .u32 ((xf .u32 (1 : Int) LH) - (1 : Int))))) (xX .i64 LF (7 : Int))))), some (z8 LN (Int.toNat (yD .i64 LF (8 : Int)) * 1)), some undef]) 27 [(0, 27), (1, 27), (2, 27), (3, 27), (4, 27), (5, 27), (6, 27), (7, 27), (8, 27), (9, 27), (10, 27), (11, 27), (12, 27), (13, 27), (14, 27), (15, 27), (16, 27), (17, 27), (18, 27), (19, 27), (20, 27), (21, 27), (22, 27), (23, 27), (24, 27), (25, 27), (26, 27)] hA hcl hav hm hpre rfl rfl rfl rfl rfl
     clear hm hav
     refine x6 hA hst ho hcl hmust [] rfl rfl rfl trivial fun a w hS => ?_
     replace hS := hS.env2 (e' := [(0, qO LJ 0), (1, .int .u32 LL), (2, .int .i64 LM), (7, .int .i64 LH)]) ⟨rfl, rfl, rfl, rfl, trivial⟩
     refine qf <| qr <| sM hS rfl fun hS => sM hS rfl fun hS => sO hS (shr rfl rfl Mq) rfl fun hS => zF (v := Value.int .u32) (x0 := (xF .u32 LL LH)) hS (xB rfl) rfl fun MT a w hz hS => ?_
     have hM := qE hz hM; clear hz
     refine qJ <| qr <| sM hS rfl fun hS => sO hS (yv rfl) rfl fun hS => sO hS (xz rfl Tryd.runUnderlying44 rfl Tryd.sizeOf42 rfl) rfl fun hS => sO hS (xz rfl Tryd.runUnderlying42 rfl Tryd.sizeOf3 rfl) rfl fun hS => sO hS (ye 0 rfl Mr rfl rfl Tryd.isAgg3) rfl fun hS => sM hS rfl fun hS => sB hS rfl fun hS => sO hS (yv rfl) rfl fun hS => sO hS (xz rfl Tryd.runUnderlying44 rfl Tryd.sizeOf42 rfl) rfl fun hS => sO hS (xz rfl Tryd.runUnderlying42 rfl Tryd.sizeOf3 rfl) rfl fun hS => Jn 0 ([.int .i64 (qh (LF + LH)), .slice LN Me.length LZ, .slice LQ LG.literals_.lengths_.length LR, .slice LS LG.literals_.codes_.length LT, .slice LU LG.distances_.lengths_.length LV, .slice LW LG.distances_.codes_.length LX]) hS rfl rfl Mr rfl rfl rfl rfl Tryd.sizeOf3 fun w MU MO hS => qJ <| zI <| sM hS rfl fun hS => sM hS rfl fun hS => sB hS rfl fun hS => zF (v := Value.int .i64) (x0 := (qh (LM - LH))) hS (xB rfl) rfl fun MP a w hz hS => ?_
     have hM := qE hz hM; clear hz
     refine zg <| zw (qf ?_)
     exact MC _ _ ⟨(qh (LF + LH)), LN, LZ, Me, MS, MU, MT, MP, hS.to [0, 1, 2, 3, 4, 5] (by kernel_rfl) ⟨rfl, rfl, rfl, trivial⟩, MN, MO, hM⟩
   ·refine wp_exit ?_
    refine qC (qC (q9 (qf ?_)))
    refine qr <| sA hS rfl fun hS => qJ <| wp_ret ?_
    exact zX (rs := [6]) hS rfl rfl (hret (0 : Int) LF L9 Ma LK Mb Mc _ (zn hM) Md LY (hS.st.pick [0, 1, 2, 3, 4, 5] (by kernel_rfl)))
theorem yq {H : xT} {F : List qp} {w : World} {R : Ending → World → Prop} {kr : (Int × (List Int)) → Prop} {kp : Value → Prop} (hG : Gl H) (K : Nat) (LF : qs) (Mi : qw) (LG : Int) (LJ : Nat) (Md : qp) (Me : Option Addr) (Mf : Nat) (Mg : qp) (LO : Option Addr) (LP : Nat) (LQ : qp) (LK : Option Addr) (LN : Nat) (LR : qp) (LU : Option Addr) (LV : Nat) (LS : qp) (LW : Option Addr) (LX : Nat) (LT : qp) (Mj : xO Md LJ ([.int .i64 LF.Writer_.place_.at_, .slice Me LF.Writer_.bytes_.length Mf, .slice LO LF.literals_.lengths_.length LP, .slice LK LF.literals_.codes_.length LN, .slice LU LF.distances_.lengths_.length LV, .slice LW LF.distances_.codes_.length LX]) 49) (Mk : xb 5 (ci .u8) 1 Me LF.Writer_.bytes_ Mf Mg) (LY : xb 3 (ci .i64) 1 LO LF.literals_.lengths_ LP LQ) (LZ : xb 3 (ci .i64) 1 LK LF.literals_.codes_ LN LR) (Ml : xb 3 (ci .i64) 1 LU LF.distances_.lengths_ LV LS) (Mm : xb 3 (ci .i64) 1 LW LF.distances_.codes_ LX LT)
    (hS : St w H [Md, Mg, LQ, LR, LS, LT] F) (hm : (zK.m K LF Mi LG).wp kr kp)
    (hret : ∀ (L0 : Int) (Mn : Option Addr) (Mp : Nat) (LL : (List Int)) (Mq : qp) (Mr : qp) (w : World), kr (L0, LL) → (xb 5 (ci .u8) 1 Mn LL Mp Mq) → (xO Mr LJ ([.int .i64 L0, .slice Mn LL.length Mp, .slice LO LF.literals_.lengths_.length LP, .slice LK LF.literals_.codes_.length LN, .slice LU LF.distances_.lengths_.length LV, .slice LW LF.distances_.codes_.length LX]) 49) → St w H [Mr, Mq, LQ, LR, LS, LT] F → R (.returned (.tuple ⟨[]⟩)) w) :
    Calls Tryd.prog 41 ⟨[qO LJ 0, .agg ⟨[.slice LO LF.literals_.lengths_.length LP, .slice LK LF.literals_.codes_.length LN]⟩, .int .i64 LG]⟩ w R := by
 refine enter Tryd.func41 rfl Tryd.ntmps41 rfl hS fun a w hS => ?_
 have hM := hm; clear hm
 rw [zK.m] at hM
 refine qr <| bx ([.slice LO LF.literals_.lengths_.length LP, .slice LK LF.literals_.codes_.length LN]) hS rfl rfl rfl fun w L7 Ms L8 hS => qJ <| qr <| sO hS (xz rfl Tryd.runUnderlying47 rfl Tryd.sizeOf45 rfl) rfl fun hS => sO hS (ye 0 rfl L8 rfl rfl Tryd.isAgg45) rfl fun hS => sM hS rfl fun hS => ?_
 obtain ⟨L9, hM⟩ := qH hM
 refine sO hS (xZ rfl rfl Tryd.runUnderlying45 Tryd.sizeOf3 (LY.rd (i := 3) rfl) (fun _ => rfl) rfl L9) rfl fun hS => sO hS (yH rfl (LY.rd (i := 3) rfl) (fun _ => rfl) L9 rfl Tryd.isAgg3) rfl fun hS => sB hS rfl fun hS => zF (v := Value.int .i64) (x0 := (qh ((rd LF.literals_.lengths_ LG) - (1 : Int)))) hS (xB rfl) rfl fun Mz a w hz hS => ?_
 have hM := qE hz hM; clear hz
 refine qJ <| xG <| zt (fun Mt a w => ∃ (LM : Int) (L1 : Option Addr) (L3 : Nat) (LH : (List Int)) (L4 : qp) (L5 : qp) (LI : Int), Ss 30 [] [(0, qO LJ 0), (2, .int .i64 LG), (4, qO L7 0), (6, .int .i64 LI)] H [L5, L4, LQ, LR, LS, LT, Ms] F a w ∧ (xb 5 (ci .u8) 1 L1 LH L3 L4) ∧ (xO L5 LJ ([.int .i64 LM, .slice L1 LH.length L3, .slice LO LF.literals_.lengths_.length LP, .slice LK LF.literals_.codes_.length LN, .slice LU LF.distances_.lengths_.length LV, .slice LW LF.distances_.codes_.length LX]) 49) ∧ (zK.l1 K LF LG Mt LM LH LI).wp kr kp) K ?_ ?_ ?_
 ·exact ⟨LF.Writer_.place_.at_, Me, Mf, LF.Writer_.bytes_, Mg, Md, Mz, hS.to [1, 2, 3, 4, 5, 6, 0] (by kernel_rfl) ⟨rfl, rfl, rfl, rfl, trivial⟩, Mk, Mj, hM⟩
 ·intro a w hI; obtain ⟨_, _, _, _, _, _, _, _, _, _, hM⟩ := hI; exact zm hM
 ·intro Mt a w hI MG Mu
  obtain ⟨LM, L1, L3, LH, L4, L5, LI, hS, Ma, Mb, hM⟩ := hI
  rw [zK.l1] at hM
  refine wp_seq <| qr <| sM hS rfl fun hS => sB hS rfl fun hS => qJ <| qI hS rfl hM (fun Mv hM => ?_) (fun Mv hM => ?_)
  ·refine wp_skip ?_
   refine qf <| wp_seq <| xG ?_
   obtain ⟨Mc, hM⟩ := qH hM
   obtain ⟨Mw, hM⟩ := qH hM
   refine q8 (vals := [some (qO LJ 0), some (qO LJ 0), some (qO LJ 0), some (qO L7 1), some (.slice LK LF.literals_.codes_.length LN), some (.int .i64 LG), some (z8 LK (Int.toNat LG * 1)), some (.int .i64 (rd LF.literals_.codes_ LG)), some (.int .i64 LI), some (.int .i64 (xF .i64 (rd LF.literals_.codes_ LG) LI)), some (.int .i64 (xX .i64 (xF .i64 (rd LF.literals_.codes_ LG) LI) (1 : Int))), some (.int .u32 (wr .u32 (xX .i64 (xF .i64 (rd LF.literals_.codes_ LG) LI) (1 : Int)))), none]) hS xw rfl ?_
   intro l w ho hcl hA hst
   refine yV hA hst ho hcl xk xx 12 [0, 1, 2, 3, 4, 5, 6, 7, 8, 9, 10, 11] rfl rfl rfl rfl rfl (by exact ⟨nM rfl, nQ rfl (by exact qV (yv rfl) rfl), nQ rfl (by exact qV (xz rfl Tryd.runUnderlying49 rfl Tryd.sizeOf44 rfl) rfl), nQ rfl (by exact qV (xz rfl Tryd.runUnderlying47 rfl Tryd.sizeOf45 rfl) rfl), nQ rfl (by exact qV (ye 6 rfl L8 rfl rfl Tryd.isAgg45) rfl), nM rfl, nQ rfl (by exact qV (xZ rfl rfl Tryd.runUnderlying45 Tryd.sizeOf3 (LZ.rd (i := 3) rfl) (fun _ => rfl) rfl Mc) rfl), nQ rfl (by exact qV (yH rfl (LZ.rd (i := 3) rfl) (fun _ => rfl) Mc rfl Tryd.isAgg3) rfl), nM rfl, nQ rfl (by exact qV (shr rfl rfl Mw) rfl), nB rfl, nQ rfl (by exact qV (u2 rfl Tryd.runUnderlying3 Tryd.runUnderlying53) rfl), trivial⟩) fun D l a w ho hcl hav hpre hm hE hk hA hst => ?_
   have hS := (Ss.mk hE hst).env2 (e' := [(19, qO LJ 0), (28, .int .u32 (wr .u32 (xX .i64 (xF .i64 (rd LF.literals_.codes_ LG) LI) (1 : Int))))]) ⟨rfl, rfl, trivial⟩
   refine qR rfl <| qN hS rfl Tryd.call23 (zk hG K (qs.mk (qW.mk (qt.mk LM) LH) LF.literals_ LF.distances_) (wr .u32 (xX .i64 (xF .i64 (rd LF.literals_.codes_ LG) LI) (1 : Int))) (1 : Int) LJ L5 L1 L3 L4 LO LP LQ LK LN LR LU LV LS LW LX LT Mb Ma LY LZ Ml Mm (hS.st.part 6 [0, 1, 2, 3, 4, 5, 6] (by kernel_rfl)) (qv hM) (fun MA Mh MB MC L6 Mx My w hM MD ME hst => qG hS.ev hst.appF rfl fun hS => ?_))
   replace hS : Ss _ _ _ H [My, Mx, LQ, LR, LS, LT, Ms] F _ _ := hS
   refine qJ ?_
   replace hst := hS.st
   obtain ⟨hcl, hmust, hav2, hA⟩ := dn (vals' := [some (qO LJ 0), some (qO LJ 0), some (qO LJ 0), some (qO L7 1), some (.slice LK LF.literals_.codes_.length LN), some (.int .i64 LG), some (z8 LK (Int.toNat LG * 1)), some (.int .i64 (rd LF.literals_.codes_ LG)), some (.int .i64 LI), some (.int .i64 (xF .i64 (rd LF.literals_.codes_ LG) LI)), some (.int .i64 (xX .i64 (xF .i64 (rd LF.literals_.codes_ LG) LI) (1 : Int))), some (.int .u32 (wr .u32 (xX .i64 (xF .i64 (rd LF.literals_.codes_ LG) LI) (1 : Int)))), some (.int .i64 MA)]) 12 [(2, 12), (11, 12), (1, 2), (10, 11), (0, 1), (9, 10), (7, 9), (8, 9), (6, 7), (4, 6), (5, 6), (3, 4)] hA hcl hav hm hpre hk rfl rfl rfl rfl rfl rfl rfl
   clear hm hav
   refine x6 hA hst ho hcl hmust [] rfl rfl rfl trivial fun a w hS => ?_
   replace hS := hS.env2 (e' := [(0, qO LJ 0), (2, .int .i64 LG), (4, qO L7 0), (6, .int .i64 LI)]) ⟨rfl, rfl, rfl, rfl, trivial⟩
   refine zw (qf ?_)
   refine zI <| sM hS rfl fun hS => sB hS rfl fun hS => zF (v := Value.int .i64) (x0 := (qh (LI - (1 : Int)))) hS (xB rfl) rfl fun MF a w hz hS => ?_
   have hM := qE hz hM; clear hz
   refine zg <| qf ?_
   exact Mu _ _ ⟨Mh, MB, MC, L6, Mx, My, MF, hS.to [0, 1, 2, 3, 4, 5, 6] (by kernel_rfl) ⟨rfl, rfl, rfl, rfl, trivial⟩, MD, ME, hM⟩
  ·refine wp_exit ?_
   refine qC (qC (q9 ?_))
   exact yT (rs := []) hS rfl rfl (hret LM L1 L3 LH L4 L5 _ (zn hM) Ma Mb (hS.st.pick [0, 1, 2, 3, 4, 5] (by kernel_rfl)))
theorem uu {H : xT} {F : List qp} {w : World} {R : Ending → World → Prop} {kr : (Int × Int × Int) → Prop} {kp : Value → Prop} (hG : Gl H) (K : Nat) (LI : Int) (LH : Int)
    (hS : St w H [] F) (hm : (z6.m K LI LH).wp kr kp)
    (hret : ∀ (LK : Int) (LM : Int) (LN : Int) (w : World), kr (LK, LM, LN) → St w H [] F → R (.returned (.agg ⟨[.int .i64 LK, .int .i64 LM, .int .u32 LN]⟩)) w) :
    Calls Tryd.prog 52 ⟨[.int .i64 LI, .int .i64 LH]⟩ w R := by
 refine enter Tryd.func52 rfl Tryd.ntmps52 rfl hS fun a w hS => ?_
 have hM := hm; clear hm
 rw [z6.m] at hM
 refine qr <| QP ([.int .i64 (0 : Int), .int .i64 (0 : Int), .int .u32 (0 : Int)]) hS Tryd.zeroValue68 rfl rfl fun w LO LQ LR hS => qJ <| qr <| sM hS rfl fun hS => sA hS rfl fun hS => sA hS rfl fun hS => qJ <| zc (fun a w => ∃ (LF : Int) (LG : Int), Ss 29 [] [(0, .int .i64 LI), (1, .int .i64 LH), (4, qO LO 0), (5, .int .i64 LF), (6, .int .i64 LG)] H [LQ] F a w ∧ (z6.j2 K LI LH LF LG).wp kr kp) (fun L1 LS => ?_) ?_
 ·refine xG ?_
  refine zt (fun LT a w => ∃ (LL : Int) (LJ : Int), Ss 29 [] [(0, .int .i64 LI), (1, .int .i64 LH), (4, qO LO 0), (5, .int .i64 LL), (6, .int .i64 LJ)] H [LQ] F a w ∧ (z6.l1 K LI LH LT LL LJ).wp kr kp) K ?_ ?_ ?_
  ·exact ⟨(0 : Int), LI, hS.to [0] (by kernel_rfl) ⟨rfl, rfl, rfl, rfl, rfl, trivial⟩, hM⟩
  ·intro a w hI; obtain ⟨_, _, _, hM⟩ := hI; exact zm hM
  ·intro LT a w hI L3 LU
   obtain ⟨LL, LJ, hS, hM⟩ := hI
   rw [z6.l1] at hM
   refine wp_seq <| qr <| sM hS rfl fun hS => sM hS rfl fun hS => ?_
   obtain ⟨LV, hM⟩ := qH hM
   refine sO hS (shl rfl rfl LV) rfl fun hS => sB hS rfl fun hS => qJ <| qI hS rfl hM (fun LW hM => ?_) (fun LW hM => ?_)
   ·refine wp_skip ?_
    refine qf <| xG <| qr <| sM hS rfl fun hS => sO hS (shr rfl rfl rfl) rfl fun hS => zF (v := Value.int .i64) (x0 := (xF .i64 LJ (1 : Int))) hS (xB rfl) rfl fun LP a w hz hS => ?_
    have hM := qE hz hM; clear hz
    refine qJ <| zI <| sM hS rfl fun hS => sB hS rfl fun hS => zF (v := Value.int .i64) (x0 := (qh (LL + (1 : Int)))) hS (xB rfl) rfl fun LX a w hz hS => ?_
    have hM := qE hz hM; clear hz
    refine zg <| zw (qf ?_)
    exact LU _ _ ⟨LX, LP, hS.to [0] (by kernel_rfl) ⟨rfl, rfl, rfl, rfl, rfl, trivial⟩, hM⟩
   ·refine wp_exit ?_
    refine qC (qC (q9 (qf ?_)))
    exact LS _ _ ⟨LL, LJ, hS.to [0] (by kernel_rfl) ⟨rfl, rfl, rfl, rfl, rfl, trivial⟩, hM⟩
 ·intro a w hI
  obtain ⟨LF, LG, hS, hM⟩ := hI
  rw [z6.j2] at hM
  refine wp_seq ?_
  obtain ⟨LY, hM⟩ := qH hM
  obtain ⟨LZ, hM⟩ := qH hM
  refine q8 (vals := [some (.int .i64 LF), some (.int .i64 LH), some (.int .i64 (xf .i64 LF LH)), some (.int .i64 LG), some (.int .i64 (qh ((xf .i64 LF LH) + LG))), some (.int .i64 LF), some (.int .i64 LI), some (.int .i64 LG), some (.int .i64 LF), some (.int .i64 (xf .i64 LG LF)), some (.int .i64 (qh (LI - (xf .i64 LG LF)))), some (.int .u32 (wr .u32 (qh (LI - (xf .i64 LG LF))))), some (.agg ⟨[.int .i64 (qh ((xf .i64 LF LH) + LG)), .int .i64 LF, .int .u32 (wr .u32 (qh (LI - (xf .i64 LG LF))))]⟩), none]) hS xw rfl ?_
  intro l w ho hcl hA hst
  refine yV hA hst ho hcl xk xx 13 [0, 1, 2, 3, 4, 5, 6, 7, 8, 9, 10, 11, 12] rfl rfl rfl rfl rfl (by exact ⟨nM rfl, nM rfl, nQ rfl (by exact qV (shl rfl rfl LY) rfl), nM rfl, nB rfl, nM rfl, nM rfl, nM rfl, nM rfl, nQ rfl (by exact qV (shl rfl rfl LZ) rfl), nB rfl, nQ rfl (by exact qV (u2 rfl Tryd.runUnderlying3 Tryd.runUnderlying53) rfl), nQ rfl (by exact qV (X4 ([.int .i64 (qh ((xf .i64 LF LH) + LG)), .int .i64 LF, .int .u32 (wr .u32 (qh (LI - (xf .i64 LG LF))))]) [(0, 1), (1, 1), (2, 1)] Tryd.zeroValue68 Tryd.runUnderlying68 (by intro w; simp [Tryd.sizeOf3, Tryd.sizeOf53]) rfl rfl) rfl), trivial⟩) fun D l a w ho hcl hav hpre hm hE hk hA hst => ?_
  have hS := (Ss.mk hE hst).env2 (e' := [(4, qO LO 0), (28, .agg ⟨[.int .i64 (qh ((xf .i64 LF LH) + LG)), .int .i64 LF, .int .u32 (wr .u32 (qh (LI - (xf .i64 LG LF))))]⟩)]) ⟨rfl, rfl, trivial⟩
  refine qR rfl <| Zo 0 ([.int .i64 (qh ((xf .i64 LF LH) + LG)), .int .i64 LF, .int .u32 (wr .u32 (qh (LI - (xf .i64 LG LF))))]) ([.int .i64 (qh ((xf .i64 LF LH) + LG)), .int .i64 LF, .int .u32 (wr .u32 (qh (LI - (xf .i64 LG LF))))]) hS rfl rfl LR rfl rfl Tryd.sizeOf68 (by simp [Value.oneCell']) (Nat.le_of_ble_eq_true rfl) rfl fun w L4 L0 hS => qJ ?_
  replace hst := hS.st
  obtain ⟨hcl, hmust, hav2, hA⟩ := Zd (vals' := [some (.int .i64 LF), some (.int .i64 LH), some (.int .i64 (xf .i64 LF LH)), some (.int .i64 LG), some (.int .i64 (qh ((xf .i64 LF LH) + LG))), some (.int .i64 LF), some (.int .i64 LI), some (.int .i64 LG), some (.int .i64 LF), some (.int .i64 (xf .i64 LG LF)), some (.int .i64 (qh (LI - (xf .i64 LG LF)))), some (.int .u32 (wr .u32 (qh (LI - (xf .i64 LG LF))))), some (.agg ⟨[.int .i64 (qh ((xf .i64 LF LH) + LG)), .int .i64 LF, .int .u32 (wr .u32 (qh (LI - (xf .i64 LG LF))))]⟩), some undef]) 13 [(0, 13), (1, 13), (2, 13), (3, 13), (4, 13), (5, 13), (6, 13), (7, 13), (8, 13), (9, 13), (10, 13), (11, 13), (12, 13)] hA hcl hav hm hpre rfl rfl rfl rfl rfl
  clear hm hav
  refine x6 hA hst ho hcl hmust [] rfl rfl rfl trivial fun a w hS => ?_
  replace hS := hS.env2 (e' := [(4, qO LO 0)]) ⟨rfl, trivial⟩
  refine qf <| wp_ret ?_
  exact jU (vs := [.agg ⟨[.int .i64 (qh ((xf .i64 LF LH) + LG)), .int .i64 LF, .int .u32 (wr .u32 (qh (LI - (xf .i64 LG LF))))]⟩]) hS rfl (by exact ⟨Bn 0 ([.int .i64 (qh ((xf .i64 LF LH) + LG)), .int .i64 LF, .int .u32 (wr .u32 (qh (LI - (xf .i64 LG LF))))]) rfl L0 rfl rfl rfl Tryd.isAgg68 Tryd.sizeOf68, trivial⟩) (hret (qh ((xf .i64 LF LH) + LG)) LF (wr .u32 (qh (LI - (xf .i64 LG LF)))) _ (zn hM) (hS.st.pick [] (by kernel_rfl)))
theorem ut {H : xT} {F : List qp} {w : World} {R : Ending → World → Prop} {kr : (Int × Int × Int) → Prop} {kp : Value → Prop} (hG : Gl H) (K : Nat) (LL : Int)
    (hS : St w H [] F) (hm : (yP.m K LL).wp kr kp)
    (hret : ∀ (LI : Int) (LJ : Int) (LK : Int) (w : World), kr (LI, LJ, LK) → St w H [] F → R (.returned (.agg ⟨[.int .i64 LI, .int .i64 LJ, .int .u32 LK]⟩)) w) :
    Calls Tryd.prog 35 ⟨[.int .i64 LL]⟩ w R := by
 refine enter Tryd.func35 rfl Tryd.ntmps35 rfl hS fun a w hS => ?_
 have hM := hm; clear hm
 rw [yP.m] at hM
 refine qr <| QP ([.int .i64 (0 : Int), .int .i64 (0 : Int), .int .u32 (0 : Int)]) hS Tryd.zeroValue68 rfl rfl fun w LU LT LM hS => qJ <| wp_seq <| qr <| sM hS rfl fun hS => sB hS rfl fun hS => qJ <| qI hS rfl hM (fun LO hM => ?_) (fun LO hM => ?_)
 ·refine wp_seq ?_
  refine zI <| sO hS (X4 ([.int .i64 (285 : Int), .int .i64 (0 : Int), .int .u32 (0 : Int)]) [(0, 1), (1, 1), (2, 1)] Tryd.zeroValue68 Tryd.runUnderlying68 (by intro w; simp [Tryd.sizeOf3, Tryd.sizeOf53]) rfl rfl) rfl fun hS => Zo 0 ([.int .i64 (285 : Int), .int .i64 (0 : Int), .int .u32 (0 : Int)]) ([.int .i64 (285 : Int), .int .i64 (0 : Int), .int .u32 (0 : Int)]) hS rfl rfl LM rfl rfl Tryd.sizeOf68 (by simp [Value.oneCell']) (Nat.le_of_ble_eq_true rfl) rfl fun w LV LP hS => qJ <| wp_ret <| zE ?_
  exact jU (vs := [.agg ⟨[.int .i64 (285 : Int), .int .i64 (0 : Int), .int .u32 (0 : Int)]⟩]) hS rfl (by exact ⟨Bn 0 ([.int .i64 (285 : Int), .int .i64 (0 : Int), .int .u32 (0 : Int)]) rfl LP rfl rfl rfl Tryd.isAgg68 Tryd.sizeOf68, trivial⟩) (hret (285 : Int) (0 : Int) (0 : Int) _ (zn hM) (hS.st.pick [] (by kernel_rfl)))
 ·refine wp_skip ?_
  refine qf <| qr <| sM hS rfl fun hS => sB hS rfl fun hS => qN hS rfl Tryd.call52 (uu hG K (qh (LL - (3 : Int))) (2 : Int) (hS.st.part 0 [0] (by kernel_rfl)) (qv hM) (fun LF LG LH w hM  hst => qG hS.ev hst.appF rfl fun hS => ?_))
  replace hS : Ss _ _ _ H [LT] F _ _ := hS
  refine QP ([.int .i64 (0 : Int), .int .i64 (0 : Int), .int .u32 (0 : Int)]) hS Tryd.zeroValue68 rfl rfl fun w LW LX LQ hS => Zo 0 ([.int .i64 LF, .int .i64 LG, .int .u32 LH]) ([.int .i64 LF, .int .i64 LG, .int .u32 LH]) hS rfl rfl LQ rfl rfl Tryd.sizeOf68 (by simp [Value.oneCell']) (Nat.le_of_ble_eq_true rfl) rfl fun w LY LN hS => qJ <| qr <| sO hS (xz rfl Tryd.runUnderlying68 rfl Tryd.sizeOf3 rfl) rfl fun hS => sO hS (ye 0 rfl LN rfl rfl Tryd.isAgg3) rfl fun hS => sB hS rfl fun hS => sO hS (xz rfl Tryd.runUnderlying68 rfl Tryd.sizeOf3 rfl) rfl fun hS => Jn 0 ([.int .i64 (qh (LF + (257 : Int))), .int .i64 LG, .int .u32 LH]) hS rfl rfl LN rfl rfl rfl rfl Tryd.sizeOf3 fun w LZ LR hS => qJ <| qr <| sO hS (u5 0 rfl LR rfl ([.int .i64 (qh (LF + (257 : Int))), .int .i64 LG, .int .u32 LH]) rfl rfl Tryd.isAgg68 Tryd.sizeOf68) rfl fun hS => Zo 1 ([.int .i64 (qh (LF + (257 : Int))), .int .i64 LG, .int .u32 LH]) ([.int .i64 (qh (LF + (257 : Int))), .int .i64 LG, .int .u32 LH]) hS rfl rfl LM rfl rfl Tryd.sizeOf68 (by simp [Value.oneCell']) (Nat.le_of_ble_eq_true rfl) rfl fun w L0 LS hS => qJ <| wp_ret ?_
  exact jU (vs := [.agg ⟨[.int .i64 (qh (LF + (257 : Int))), .int .i64 LG, .int .u32 LH]⟩]) hS rfl (by exact ⟨Bn 1 ([.int .i64 (qh (LF + (257 : Int))), .int .i64 LG, .int .u32 LH]) rfl LS rfl rfl rfl Tryd.isAgg68 Tryd.sizeOf68, trivial⟩) (hret (qh (LF + (257 : Int))) LG LH _ (zn hM) (hS.st.pick [] (by kernel_rfl)))
theorem vM {H : xT} {F : List qp} {w : World} {R : Ending → World → Prop} {kr : (Int × (List Int)) → Prop} {kp : Value → Prop} (hG : Gl H) (K : Nat) (LF : qs) (Mb : qw) (LG : xV) (LH : Nat) (L5 : qp) (L6 : Option Addr) (L7 : Nat) (L8 : qp) (LJ : Option Addr) (LK : Nat) (LN : qp) (LL : Option Addr) (LM : Nat) (LO : qp) (LR : Option Addr) (LS : Nat) (LP : qp) (LT : Option Addr) (LU : Nat) (LQ : qp) (Mc : xO L5 LH ([.int .i64 LF.Writer_.place_.at_, .slice L6 LF.Writer_.bytes_.length L7, .slice LJ LF.literals_.lengths_.length LK, .slice LL LF.literals_.codes_.length LM, .slice LR LF.distances_.lengths_.length LS, .slice LT LF.distances_.codes_.length LU]) 49) (Md : xb 5 (ci .u8) 1 L6 LF.Writer_.bytes_ L7 L8) (L0 : xb 3 (ci .i64) 1 LJ LF.literals_.lengths_ LK LN) (L1 : xb 3 (ci .i64) 1 LL LF.literals_.codes_ LM LO) (L3 : xb 3 (ci .i64) 1 LR LF.distances_.lengths_ LS LP) (L4 : xb 3 (ci .i64) 1 LT LF.distances_.codes_ LU LQ)
    (hS : St w H [L5, L8, LN, LO, LP, LQ] F) (hm : (yf.m K LF Mb LG).wp kr kp)
    (hret : ∀ (LV : Int) (Me : Option Addr) (Mf : Nat) (LI : (List Int)) (Mg : qp) (Mh : qp) (w : World), kr (LV, LI) → (xb 5 (ci .u8) 1 Me LI Mf Mg) → (xO Mh LH ([.int .i64 LV, .slice Me LI.length Mf, .slice LJ LF.literals_.lengths_.length LK, .slice LL LF.literals_.codes_.length LM, .slice LR LF.distances_.lengths_.length LS, .slice LT LF.distances_.codes_.length LU]) 49) → St w H [Mh, Mg, LN, LO, LP, LQ] F → R (.returned (.tuple ⟨[]⟩)) w) :
    Calls Tryd.prog 50 ⟨[qO LH 0, .agg ⟨[.slice LJ LF.literals_.lengths_.length LK, .slice LL LF.literals_.codes_.length LM]⟩, .agg ⟨[.int .i64 LG.symbol_, .int .i64 LG.bits_, .int .u32 LG.more_]⟩]⟩ w R := by
 refine enter Tryd.func50 rfl Tryd.ntmps50 rfl hS fun a w hS => ?_
 have hM := hm; clear hm
 rw [yf.m] at hM
 refine qr <| bx ([.slice LJ LF.literals_.lengths_.length LK, .slice LL LF.literals_.codes_.length LM]) hS rfl rfl rfl fun w Mz Mi Mj hS => bx ([.int .i64 LG.symbol_, .int .i64 LG.bits_, .int .u32 LG.more_]) hS rfl rfl rfl fun w LZ Mk LW hS => qJ <| qr <| sM hS rfl fun hS => sO hS (u5 1 rfl Mj rfl ([.slice LJ LF.literals_.lengths_.length LK, .slice LL LF.literals_.codes_.length LM]) rfl rfl Tryd.isAgg47 Tryd.sizeOf47) rfl fun hS => sO hS (xz rfl Tryd.runUnderlying68 rfl Tryd.sizeOf3 rfl) rfl fun hS => sO hS (ye 0 rfl LW rfl rfl Tryd.isAgg3) rfl fun hS => qN hS rfl Tryd.call41 (yq hG K LF LF.literals_ LG.symbol_ LH L5 L6 L7 L8 LJ LK LN LL LM LO LR LS LP LT LU LQ Mc Md L0 L1 L3 L4 (hS.st.part 6 [2, 3, 4, 5, 6, 7, 0, 1] (by kernel_rfl)) (qv hM) (fun L9 Mq Mr LX Ml Mm w hM Ms Mt hst => qG hS.ev hst.appF rfl fun hS => ?_))
 replace hS : Ss _ _ _ H [Mm, Ml, LN, LO, LP, LQ, Mk, Mi] F _ _ := hS
 refine qJ <| q8 (vals := [some (qO LH 0), some (qO LH 0), some (qO LH 0), some (qO LZ 2), some (.int .u32 LG.more_), some (qO LZ 1), some (.int .i64 LG.bits_), none]) hS xw rfl ?_
 intro l w ho hcl hA hst
 refine yV hA hst ho hcl xk xx 7 [0, 1, 2, 3, 4, 5, 6] rfl rfl rfl rfl rfl (by exact ⟨nM rfl, nQ rfl (by exact qV (yv rfl) rfl), nQ rfl (by exact qV (xz rfl Tryd.runUnderlying49 rfl Tryd.sizeOf44 rfl) rfl), nQ rfl (by exact qV (xz rfl Tryd.runUnderlying68 rfl Tryd.sizeOf53 rfl) rfl), nQ rfl (by exact qV (ye 6 rfl LW rfl rfl Tryd.isAgg53) rfl), nQ rfl (by exact qV (xz rfl Tryd.runUnderlying68 rfl Tryd.sizeOf3 rfl) rfl), nQ rfl (by exact qV (ye 6 rfl LW rfl rfl Tryd.isAgg3) rfl), trivial⟩) fun D l a w ho hcl hav hpre hm hE hk hA hst => ?_
 have hS := (Ss.mk hE hst).env2 (e' := [(13, qO LH 0), (15, .int .u32 LG.more_), (17, .int .i64 LG.bits_)]) ⟨rfl, rfl, rfl, trivial⟩
 refine qR rfl <| qN hS rfl Tryd.call23 (zk hG K (qs.mk (qW.mk (qt.mk L9) LX) LF.literals_ LF.distances_) LG.more_ LG.bits_ LH Mm Mq Mr Ml LJ LK LN LL LM LO LR LS LP LT LU LQ Mt Ms L0 L1 L3 L4 (hS.st.part 6 [0, 1, 2, 3, 4, 5, 6, 7] (by kernel_rfl)) (qv hM) (fun Mu Ma Mv Mw LY Mn Mp w hM Mx My hst => qG hS.ev hst.appF rfl fun hS => ?_))
 replace hS : Ss _ _ _ H [Mp, Mn, LN, LO, LP, LQ, Mk, Mi] F _ _ := hS
 refine qJ ?_
 replace hst := hS.st
 obtain ⟨hcl, hmust, hav2, hA⟩ := dn (vals' := [some (qO LH 0), some (qO LH 0), some (qO LH 0), some (qO LZ 2), some (.int .u32 LG.more_), some (qO LZ 1), some (.int .i64 LG.bits_), some (.int .i64 Mu)]) 7 [(2, 7), (4, 7), (6, 7), (1, 2), (3, 4), (5, 6), (0, 1)] hA hcl hav hm hpre hk rfl rfl rfl rfl rfl rfl rfl
 clear hm hav
 refine x6 hA hst ho hcl hmust [] rfl rfl rfl trivial fun a w hS => ?_
 replace hS := hS.env2 (e' := []) trivial
 exact yT (rs := []) hS rfl rfl (hret Ma Mv Mw LY Mn Mp _ (zn hM) Mx My (hS.st.pick [0, 1, 2, 3, 4, 5] (by kernel_rfl)))
theorem vQ {H : xT} {F : List qp} {w : World} {R : Ending → World → Prop} {kr : (Int × Int × Int) → Prop} {kp : Value → Prop} (hG : Gl H) (K : Nat) (LL : Int)
    (hS : St w H [] F) (hm : (yx.m K LL).wp kr kp)
    (hret : ∀ (LI : Int) (LJ : Int) (LK : Int) (w : World), kr (LI, LJ, LK) → St w H [] F → R (.returned (.agg ⟨[.int .i64 LI, .int .i64 LJ, .int .u32 LK]⟩)) w) :
    Calls Tryd.prog 36 ⟨[.int .i64 LL]⟩ w R := by
 refine enter Tryd.func36 rfl Tryd.ntmps36 rfl hS fun a w hS => ?_
 have hM := hm; clear hm
 rw [yx.m] at hM
 refine qr <| QP ([.int .i64 (0 : Int), .int .i64 (0 : Int), .int .u32 (0 : Int)]) hS Tryd.zeroValue68 rfl rfl fun w LP LO LM hS => qJ <| qr <| sM hS rfl fun hS => sB hS rfl fun hS => qN hS rfl Tryd.call52 (uu hG K (qh (LL - (1 : Int))) (1 : Int) (hS.st.part 0 [0] (by kernel_rfl)) (qv hM) (fun LF LG LH w hM  hst => qG hS.ev hst.appF rfl fun hS => ?_))
 replace hS : Ss _ _ _ H [LO] F _ _ := hS
 refine Zo 0 ([.int .i64 LF, .int .i64 LG, .int .u32 LH]) ([.int .i64 LF, .int .i64 LG, .int .u32 LH]) hS rfl rfl LM rfl rfl Tryd.sizeOf68 (by simp [Value.oneCell']) (Nat.le_of_ble_eq_true rfl) rfl fun w LQ LN hS => qJ <| wp_ret ?_
 exact jU (vs := [.agg ⟨[.int .i64 LF, .int .i64 LG, .int .u32 LH]⟩]) hS rfl (by exact ⟨Bn 0 ([.int .i64 LF, .int .i64 LG, .int .u32 LH]) rfl LN rfl rfl rfl Tryd.isAgg68 Tryd.sizeOf68, trivial⟩) (hret LF LG LH _ (zn hM) (hS.st.pick [] (by kernel_rfl)))
theorem vm {H : xT} {F : List qp} {w : World} {R : Ending → World → Prop} {kr : (Int × (List Int)) → Prop} {kp : Value → Prop} (hG : Gl H) (K : Nat) (LF : qs) (Mt : qw) (LI : Int) (LJ : Nat) (Ml : qp) (Mm : Option Addr) (Mn : Nat) (Mp : qp) (L0 : Option Addr) (L1 : Nat) (LV : qp) (L3 : Option Addr) (L4 : Nat) (LW : qp) (LS : Option Addr) (LT : Nat) (LX : qp) (LM : Option Addr) (LN : Nat) (LY : qp) (Mu : xO Ml LJ ([.int .i64 LF.Writer_.place_.at_, .slice Mm LF.Writer_.bytes_.length Mn, .slice L0 LF.literals_.lengths_.length L1, .slice L3 LF.literals_.codes_.length L4, .slice LS LF.distances_.lengths_.length LT, .slice LM LF.distances_.codes_.length LN]) 49) (Mv : xb 5 (ci .u8) 1 Mm LF.Writer_.bytes_ Mn Mp) (Mw : xb 3 (ci .i64) 1 L0 LF.literals_.lengths_ L1 LV) (Mx : xb 3 (ci .i64) 1 L3 LF.literals_.codes_ L4 LW) (L5 : xb 3 (ci .i64) 1 LS LF.distances_.lengths_ LT LX) (L6 : xb 3 (ci .i64) 1 LM LF.distances_.codes_ LN LY)
    (hS : St w H [Ml, Mp, LV, LW, LX, LY] F) (hm : (z2.m K LF Mt LI).wp kr kp)
    (hret : ∀ (LU : Int) (Mc : Option Addr) (Md : Nat) (LL : (List Int)) (Me : qp) (Mf : qp) (w : World), kr (LU, LL) → (xb 5 (ci .u8) 1 Mc LL Md Me) → (xO Mf LJ ([.int .i64 LU, .slice Mc LL.length Md, .slice L0 LF.literals_.lengths_.length L1, .slice L3 LF.literals_.codes_.length L4, .slice LS LF.distances_.lengths_.length LT, .slice LM LF.distances_.codes_.length LN]) 49) → St w H [Mf, Me, LV, LW, LX, LY] F → R (.returned (.tuple ⟨[]⟩)) w) :
    Calls Tryd.prog 41 ⟨[qO LJ 0, .agg ⟨[.slice LS LF.distances_.lengths_.length LT, .slice LM LF.distances_.codes_.length LN]⟩, .int .i64 LI]⟩ w R := by
 refine enter Tryd.func41 rfl Tryd.ntmps41 rfl hS fun a w hS => ?_
 have hM := hm; clear hm
 rw [z2.m] at hM
 refine qr <| bx ([.slice LS LF.distances_.lengths_.length LT, .slice LM LF.distances_.codes_.length LN]) hS rfl rfl rfl fun w Ma My Mg hS => qJ <| qr <| sO hS (xz rfl Tryd.runUnderlying47 rfl Tryd.sizeOf45 rfl) rfl fun hS => sO hS (ye 0 rfl Mg rfl rfl Tryd.isAgg45) rfl fun hS => sM hS rfl fun hS => ?_
 obtain ⟨Mh, hM⟩ := qH hM
 refine sO hS (xZ rfl rfl Tryd.runUnderlying45 Tryd.sizeOf3 (L5.rd (i := 5) rfl) (fun _ => rfl) rfl Mh) rfl fun hS => sO hS (yH rfl (L5.rd (i := 5) rfl) (fun _ => rfl) Mh rfl Tryd.isAgg3) rfl fun hS => sB hS rfl fun hS => zF (v := Value.int .i64) (x0 := (qh ((rd LF.distances_.lengths_ LI) - (1 : Int)))) hS (xB rfl) rfl fun MF a w hz hS => ?_
 have hM := qE hz hM; clear hz
 refine qJ <| xG <| zt (fun Mi a w => ∃ (LK : Int) (LO : Option Addr) (LP : Nat) (LG : (List Int)) (LQ : qp) (LR : qp) (LH : Int), Ss 30 [] [(0, qO LJ 0), (2, .int .i64 LI), (4, qO Ma 0), (6, .int .i64 LH)] H [LR, LQ, LV, LW, LX, LY, My] F a w ∧ (xb 5 (ci .u8) 1 LO LG LP LQ) ∧ (xO LR LJ ([.int .i64 LK, .slice LO LG.length LP, .slice L0 LF.literals_.lengths_.length L1, .slice L3 LF.literals_.codes_.length L4, .slice LS LF.distances_.lengths_.length LT, .slice LM LF.distances_.codes_.length LN]) 49) ∧ (z2.l1 K LF LI Mi LK LG LH).wp kr kp) K ?_ ?_ ?_
 ·exact ⟨LF.Writer_.place_.at_, Mm, Mn, LF.Writer_.bytes_, Mp, Ml, MF, hS.to [1, 2, 3, 4, 5, 6, 0] (by kernel_rfl) ⟨rfl, rfl, rfl, rfl, trivial⟩, Mv, Mu, hM⟩
 ·intro a w hI; obtain ⟨_, _, _, _, _, _, _, _, _, _, hM⟩ := hI; exact zm hM
 ·intro Mi a w hI MG Mq
  obtain ⟨LK, LO, LP, LG, LQ, LR, LH, hS, L7, L8, hM⟩ := hI
  rw [z2.l1] at hM
  refine wp_seq <| qr <| sM hS rfl fun hS => sB hS rfl fun hS => qJ <| qI hS rfl hM (fun Mr hM => ?_) (fun Mr hM => ?_)
  ·refine wp_skip ?_
   refine qf <| wp_seq <| xG ?_
   obtain ⟨L9, hM⟩ := qH hM
   obtain ⟨Ms, hM⟩ := qH hM
   refine q8 (vals := [some (qO LJ 0), some (qO LJ 0), some (qO LJ 0), some (qO Ma 1), some (.slice LM LF.distances_.codes_.length LN), some (.int .i64 LI), some (z8 LM (Int.toNat LI * 1)), some (.int .i64 (rd LF.distances_.codes_ LI)), some (.int .i64 LH), some (.int .i64 (xF .i64 (rd LF.distances_.codes_ LI) LH)), some (.int .i64 (xX .i64 (xF .i64 (rd LF.distances_.codes_ LI) LH) (1 : Int))), some (.int .u32 (wr .u32 (xX .i64 (xF .i64 (rd LF.distances_.codes_ LI) LH) (1 : Int)))), none]) hS xw rfl ?_
   intro l w ho hcl hA hst
   refine yV hA hst ho hcl xk xx 12 [0, 1, 2, 3, 4, 5, 6, 7, 8, 9, 10, 11] rfl rfl rfl rfl rfl (by exact ⟨nM rfl, nQ rfl (by exact qV (yv rfl) rfl), nQ rfl (by exact qV (xz rfl Tryd.runUnderlying49 rfl Tryd.sizeOf44 rfl) rfl), nQ rfl (by exact qV (xz rfl Tryd.runUnderlying47 rfl Tryd.sizeOf45 rfl) rfl), nQ rfl (by exact qV (ye 6 rfl Mg rfl rfl Tryd.isAgg45) rfl), nM rfl, nQ rfl (by exact qV (xZ rfl rfl Tryd.runUnderlying45 Tryd.sizeOf3 (L6.rd (i := 5) rfl) (fun _ => rfl) rfl L9) rfl), nQ rfl (by exact qV (yH rfl (L6.rd (i := 5) rfl) (fun _ => rfl) L9 rfl Tryd.isAgg3) rfl), nM rfl, nQ rfl (by exact qV (shr rfl rfl Ms) rfl), nB rfl, nQ rfl (by exact qV (u2 rfl Tryd.runUnderlying3 Tryd.runUnderlying53) rfl), trivial⟩) fun D l a w ho hcl hav hpre hm hE hk hA hst => ?_
   have hS := (Ss.mk hE hst).env2 (e' := [(19, qO LJ 0), (28, .int .u32 (wr .u32 (xX .i64 (xF .i64 (rd LF.distances_.codes_ LI) LH) (1 : Int))))]) ⟨rfl, rfl, trivial⟩
   refine qR rfl <| qN hS rfl Tryd.call23 (zk hG K (qs.mk (qW.mk (qt.mk LK) LG) LF.literals_ LF.distances_) (wr .u32 (xX .i64 (xF .i64 (rd LF.distances_.codes_ LI) LH) (1 : Int))) (1 : Int) LJ LR LO LP LQ L0 L1 LV L3 L4 LW LS LT LX LM LN LY L8 L7 Mw Mx L5 L6 (hS.st.part 6 [0, 1, 2, 3, 4, 5, 6] (by kernel_rfl)) (qv hM) (fun Mz Mb MA MB LZ Mj Mk w hM MC MD hst => qG hS.ev hst.appF rfl fun hS => ?_))
   replace hS : Ss _ _ _ H [Mk, Mj, LV, LW, LX, LY, My] F _ _ := hS
   refine qJ ?_
   replace hst := hS.st
   obtain ⟨hcl, hmust, hav2, hA⟩ := dn (vals' := [some (qO LJ 0), some (qO LJ 0), some (qO LJ 0), some (qO Ma 1), some (.slice LM LF.distances_.codes_.length LN), some (.int .i64 LI), some (z8 LM (Int.toNat LI * 1)), some (.int .i64 (rd LF.distances_.codes_ LI)), some (.int .i64 LH), some (.int .i64 (xF .i64 (rd LF.distances_.codes_ LI) LH)), some (.int .i64 (xX .i64 (xF .i64 (rd LF.distances_.codes_ LI) LH) (1 : Int))), some (.int .u32 (wr .u32 (xX .i64 (xF .i64 (rd LF.distances_.codes_ LI) LH) (1 : Int)))), some (.int .i64 Mz)]) 12 [(2, 12), (11, 12), (1, 2), (10, 11), (0, 1), (9, 10), (7, 9), (8, 9), (6, 7), (4, 6), (5, 6), (3, 4)] hA hcl hav hm hpre hk rfl rfl rfl rfl rfl rfl rfl
   clear hm hav
   refine x6 hA hst ho hcl hmust [] rfl rfl rfl trivial fun a w hS => ?_
   replace hS := hS.env2 (e' := [(0, qO LJ 0), (2, .int .i64 LI), (4, qO Ma 0), (6, .int .i64 LH)]) ⟨rfl, rfl, rfl, rfl, trivial⟩
   refine zw (qf ?_)
   refine zI <| sM hS rfl fun hS => sB hS rfl fun hS => zF (v := Value.int .i64) (x0 := (qh (LH - (1 : Int)))) hS (xB rfl) rfl fun ME a w hz hS => ?_
   have hM := qE hz hM; clear hz
   refine zg <| qf ?_
   exact Mq _ _ ⟨Mb, MA, MB, LZ, Mj, Mk, ME, hS.to [0, 1, 2, 3, 4, 5, 6] (by kernel_rfl) ⟨rfl, rfl, rfl, rfl, trivial⟩, MC, MD, hM⟩
  ·refine wp_exit ?_
   refine qC (qC (q9 ?_))
   exact yT (rs := []) hS rfl rfl (hret LK LO LP LG LQ LR _ (zn hM) L7 L8 (hS.st.pick [0, 1, 2, 3, 4, 5] (by kernel_rfl)))
theorem vS {H : xT} {F : List qp} {w : World} {R : Ending → World → Prop} {kr : (Int × (List Int)) → Prop} {kp : Value → Prop} (hG : Gl H) (K : Nat) (LF : qs) (Mj : qw) (LG : xV) (LI : Nat) (Mf : qp) (Mg : Option Addr) (Mh : Nat) (Mi : qp) (LU : Option Addr) (LV : Nat) (LN : qp) (LW : Option Addr) (LX : Nat) (LO : qp) (LJ : Option Addr) (LK : Nat) (LP : qp) (LL : Option Addr) (LM : Nat) (LQ : qp) (Mk : xO Mf LI ([.int .i64 LF.Writer_.place_.at_, .slice Mg LF.Writer_.bytes_.length Mh, .slice LU LF.literals_.lengths_.length LV, .slice LW LF.literals_.codes_.length LX, .slice LJ LF.distances_.lengths_.length LK, .slice LL LF.distances_.codes_.length LM]) 49) (Ml : xb 5 (ci .u8) 1 Mg LF.Writer_.bytes_ Mh Mi) (L3 : xb 3 (ci .i64) 1 LU LF.literals_.lengths_ LV LN) (L4 : xb 3 (ci .i64) 1 LW LF.literals_.codes_ LX LO) (L5 : xb 3 (ci .i64) 1 LJ LF.distances_.lengths_ LK LP) (L6 : xb 3 (ci .i64) 1 LL LF.distances_.codes_ LM LQ)
    (hS : St w H [Mf, Mi, LN, LO, LP, LQ] F) (hm : (yg.m K LF Mj LG).wp kr kp)
    (hret : ∀ (LR : Int) (L7 : Option Addr) (L8 : Nat) (LH : (List Int)) (L9 : qp) (Ma : qp) (w : World), kr (LR, LH) → (xb 5 (ci .u8) 1 L7 LH L8 L9) → (xO Ma LI ([.int .i64 LR, .slice L7 LH.length L8, .slice LU LF.literals_.lengths_.length LV, .slice LW LF.literals_.codes_.length LX, .slice LJ LF.distances_.lengths_.length LK, .slice LL LF.distances_.codes_.length LM]) 49) → St w H [Ma, L9, LN, LO, LP, LQ] F → R (.returned (.tuple ⟨[]⟩)) w) :
    Calls Tryd.prog 50 ⟨[qO LI 0, .agg ⟨[.slice LJ LF.distances_.lengths_.length LK, .slice LL LF.distances_.codes_.length LM]⟩, .agg ⟨[.int .i64 LG.symbol_, .int .i64 LG.bits_, .int .u32 LG.more_]⟩]⟩ w R := by
 refine enter Tryd.func50 rfl Tryd.ntmps50 rfl hS fun a w hS => ?_
 have hM := hm; clear hm
 rw [yg.m] at hM
 refine qr <| bx ([.slice LJ LF.distances_.lengths_.length LK, .slice LL LF.distances_.codes_.length LM]) hS rfl rfl rfl fun w Mz Mm Mn hS => bx ([.int .i64 LG.symbol_, .int .i64 LG.bits_, .int .u32 LG.more_]) hS rfl rfl rfl fun w LZ Mp LY hS => qJ <| qr <| sM hS rfl fun hS => sO hS (u5 1 rfl Mn rfl ([.slice LJ LF.distances_.lengths_.length LK, .slice LL LF.distances_.codes_.length LM]) rfl rfl Tryd.isAgg47 Tryd.sizeOf47) rfl fun hS => sO hS (xz rfl Tryd.runUnderlying68 rfl Tryd.sizeOf3 rfl) rfl fun hS => sO hS (ye 0 rfl LY rfl rfl Tryd.isAgg3) rfl fun hS => qN hS rfl Tryd.call41 (vm hG K LF LF.distances_ LG.symbol_ LI Mf Mg Mh Mi LU LV LN LW LX LO LJ LK LP LL LM LQ Mk Ml L3 L4 L5 L6 (hS.st.part 6 [2, 3, 4, 5, 6, 7, 0, 1] (by kernel_rfl)) (qv hM) (fun L0 Mq Mr LS Mb Mc w hM Ms Mt hst => qG hS.ev hst.appF rfl fun hS => ?_))
 replace hS : Ss _ _ _ H [Mc, Mb, LN, LO, LP, LQ, Mp, Mm] F _ _ := hS
 refine qJ <| q8 (vals := [some (qO LI 0), some (qO LI 0), some (qO LI 0), some (qO LZ 2), some (.int .u32 LG.more_), some (qO LZ 1), some (.int .i64 LG.bits_), none]) hS xw rfl ?_
 intro l w ho hcl hA hst
 refine yV hA hst ho hcl xk xx 7 [0, 1, 2, 3, 4, 5, 6] rfl rfl rfl rfl rfl (by exact ⟨nM rfl, nQ rfl (by exact qV (yv rfl) rfl), nQ rfl (by exact qV (xz rfl Tryd.runUnderlying49 rfl Tryd.sizeOf44 rfl) rfl), nQ rfl (by exact qV (xz rfl Tryd.runUnderlying68 rfl Tryd.sizeOf53 rfl) rfl), nQ rfl (by exact qV (ye 6 rfl LY rfl rfl Tryd.isAgg53) rfl), nQ rfl (by exact qV (xz rfl Tryd.runUnderlying68 rfl Tryd.sizeOf3 rfl) rfl), nQ rfl (by exact qV (ye 6 rfl LY rfl rfl Tryd.isAgg3) rfl), trivial⟩) fun D l a w ho hcl hav hpre hm hE hk hA hst => ?_
 have hS := (Ss.mk hE hst).env2 (e' := [(13, qO LI 0), (15, .int .u32 LG.more_), (17, .int .i64 LG.bits_)]) ⟨rfl, rfl, rfl, trivial⟩
 refine qR rfl <| qN hS rfl Tryd.call23 (zk hG K (qs.mk (qW.mk (qt.mk L0) LS) LF.literals_ LF.distances_) LG.more_ LG.bits_ LI Mc Mq Mr Mb LU LV LN LW LX LO LJ LK LP LL LM LQ Mt Ms L3 L4 L5 L6 (hS.st.part 6 [0, 1, 2, 3, 4, 5, 6, 7] (by kernel_rfl)) (qv hM) (fun Mu L1 Mv Mw LT Md Me w hM Mx My hst => qG hS.ev hst.appF rfl fun hS => ?_))
 replace hS : Ss _ _ _ H [Me, Md, LN, LO, LP, LQ, Mp, Mm] F _ _ := hS
 refine qJ ?_
 replace hst := hS.st
 obtain ⟨hcl, hmust, hav2, hA⟩ := dn (vals' := [some (qO LI 0), some (qO LI 0), some (qO LI 0), some (qO LZ 2), some (.int .u32 LG.more_), some (qO LZ 1), some (.int .i64 LG.bits_), some (.int .i64 Mu)]) 7 [(2, 7), (4, 7), (6, 7), (1, 2), (3, 4), (5, 6), (0, 1)] hA hcl hav hm hpre hk rfl rfl rfl rfl rfl rfl rfl
 clear hm hav
 refine x6 hA hst ho hcl hmust [] rfl rfl rfl trivial fun a w hS => ?_
 replace hS := hS.env2 (e' := []) trivial
 exact yT (rs := []) hS rfl rfl (hret L1 Mv Mw LT Md Me _ (zn hM) Mx My (hS.st.pick [0, 1, 2, 3, 4, 5] (by kernel_rfl)))
theorem jE {H : xT} {F : List qp} {w : World} {R : Ending → World → Prop} {kr : (Int × (List Int)) → Prop} {kp : Value → Prop} (hG : Gl H) (K : Nat) (LF : qs) (LG : List qB) (LH : Nat) (MS : qp) (MT : Option Addr) (MU : Nat) (MV : qp) (LK : Option Addr) (LL : Nat) (LS : qp) (LM : Option Addr) (LN : Nat) (LT : qp) (LU : Option Addr) (LV : Nat) (LW : qp) (LX : Option Addr) (LY : Nat) (LZ : qp) (Mq : Option Addr) (Mr : Nat) (M3 : xO MS LH ([.int .i64 LF.Writer_.place_.at_, .slice MT LF.Writer_.bytes_.length MU, .slice LK LF.literals_.lengths_.length LL, .slice LM LF.literals_.codes_.length LN, .slice LU LF.distances_.lengths_.length LV, .slice LX LF.distances_.codes_.length LY]) 49) (M4 : xb 5 (ci .u8) 1 MT LF.Writer_.bytes_ MU MV) (Mg : xb 3 (ci .i64) 1 LK LF.literals_.lengths_ LL LS) (Mh : xb 3 (ci .i64) 1 LM LF.literals_.codes_ LN LT) (Mi : xb 3 (ci .i64) 1 LU LF.distances_.lengths_ LV LW) (Mj : xb 3 (ci .i64) 1 LX LF.distances_.codes_ LY LZ) (MG : jQ H [] F qB.cells Mq LG) (Nl : LG.length ≤ Mr)
    (hS : St w H [MS, MV, LS, LT, LW, LZ] F) (hm : (zh.m K LF LG).wp kr kp)
    (hret : ∀ (Mk : Int) (MH : Option Addr) (MI : Nat) (L6 : (List Int)) (MJ : qp) (MK : qp) (w : World), kr (Mk, L6) → (xb 5 (ci .u8) 1 MH L6 MI MJ) → (xO MK LH ([.int .i64 Mk, .slice MH L6.length MI, .slice LK LF.literals_.lengths_.length LL, .slice LM LF.literals_.codes_.length LN, .slice LU LF.distances_.lengths_.length LV, .slice LX LF.distances_.codes_.length LY]) 49) → St w H [MK, MJ, LS, LT, LW, LZ] F → R (.returned (.tuple ⟨[]⟩)) w) :
    Calls Tryd.prog 24 ⟨[qO LH 0, .slice Mq LG.length Mr]⟩ w R := by
 refine enter Tryd.func24 rfl Tryd.ntmps24 rfl hS fun a w hS => ?_
 have hM := hm; clear hm
 rw [zh.m] at hM
 refine zc (fun a w => ∃ (L8 : Int) (Ml : Option Addr) (Mm : Nat) (LO : (List Int)) (Mn : qp) (Mp : qp), Ss 49 [] [(0, qO LH 0)] H [Mp, Mn, LS, LT, LW, LZ] F a w ∧ (xb 5 (ci .u8) 1 Ml LO Mm Mn) ∧ (xO Mp LH ([.int .i64 L8, .slice Ml LO.length Mm, .slice LK LF.literals_.lengths_.length LL, .slice LM LF.literals_.codes_.length LN, .slice LU LF.distances_.lengths_.length LV, .slice LX LF.distances_.codes_.length LY]) 49) ∧ (zh.j2 K LF L8 LO).wp kr kp) (fun Nm MW => ?_) ?_
 ·refine wp_seq ?_
  refine zI <| sM hS rfl fun hS => sO hS (ym rfl Tryd.runUnderlying25) rfl fun hS => sM hS rfl fun hS => qJ <| xG <| zt (fun ML a w => ∃ (LR : Int) (Mb : Option Addr) (Mc : Nat) (LJ : (List Int)) (L9 : qp) (Ma : qp) (LI : Int), Ss 49 [] [(0, qO LH 0), (6, .slice Mq LG.length Mr), (7, .int .i64 (LG.length : Int)), (8, .int .i64 LI)] H [Ma, L9, LS, LT, LW, LZ] F a w ∧ (xb 5 (ci .u8) 1 Mb LJ Mc L9) ∧ (xO Ma LH ([.int .i64 LR, .slice Mb LJ.length Mc, .slice LK LF.literals_.lengths_.length LL, .slice LM LF.literals_.codes_.length LN, .slice LU LF.distances_.lengths_.length LV, .slice LX LF.distances_.codes_.length LY]) 49) ∧ (zh.l1 K LF LG ML LR LJ LI).wp kr kp) K ?_ ?_ ?_
  ·exact ⟨LF.Writer_.place_.at_, MT, MU, LF.Writer_.bytes_, MV, MS, (0 : Int), hS.to [0, 1, 2, 3, 4, 5] (by kernel_rfl) ⟨rfl, rfl, rfl, rfl, trivial⟩, M4, M3, hM⟩
  ·intro a w hI; obtain ⟨_, _, _, _, _, _, _, _, _, _, hM⟩ := hI; exact zm hM
  ·intro ML a w hI Nn Mw
   obtain ⟨LR, Mb, Mc, LJ, L9, Ma, LI, hS, Mf, L7, hM⟩ := hI
   rw [zh.l1] at hM
   refine qr <| sB hS rfl fun hS => qJ <| wp_seq <| qI hS rfl hM (fun MX hM => ?_) (fun MX hM => ?_)
   ·refine wp_skip ?_
    refine qf <| wp_seq <| xG <| wp_seq <| zI ?_
    obtain ⟨Mx, hM⟩ := qH hM
    refine sO hS (xZ rfl rfl Tryd.runUnderlying25 Tryd.sizeOf32 MG.wk (fun _ => rfl) rfl Mx) rfl fun hS => sO hS (y4 rfl MG.wk (fun _ => rfl) Mx Tryd.isAgg32 Tryd.sizeOf32 rfl) rfl fun hS => QP ([.int .u8 (0 : Int), .int .i64 (0 : Int), .int .i64 (0 : Int)]) hS Tryd.zeroValue32 rfl rfl fun w L0 No MY hS => Zo 0 ([.int .u8 ((rd LG LI).Lit_), .int .i64 ((rd LG LI).Len_), .int .i64 ((rd LG LI).Dist_)]) ([.int .u8 ((rd LG LI).Lit_), .int .i64 ((rd LG LI).Len_), .int .i64 ((rd LG LI).Dist_)]) hS rfl rfl MY rfl rfl Tryd.sizeOf32 (by simp [Value.oneCell']) (Nat.le_of_ble_eq_true rfl) rfl fun w Me Md hS => qJ <| wp_seq <| qr <| sO hS (xz rfl Tryd.runUnderlying32 rfl Tryd.sizeOf3 rfl) rfl fun hS => sO hS (ye 0 rfl Md rfl rfl Tryd.isAgg3) rfl fun hS => sB hS rfl fun hS => qJ <| qI hS rfl hM (fun MZ hM => ?_) (fun MZ hM => ?_)
    ·refine wp_seq ?_
     refine q8 (vals := [some (qO LH 0), some (qO LH 0), some (qO LH 0), some (qO LH 2), some (.agg ⟨[.slice LK LF.literals_.lengths_.length LL, .slice LM LF.literals_.codes_.length LN]⟩), some (qO L0 0), some (.int .u8 ((rd LG LI).Lit_)), some (.int .i64 (wr .i64 (rd LG LI).Lit_)), none]) hS xw rfl ?_
     intro l w ho hcl hA hst
     refine yV hA hst ho hcl xk xx 8 [0, 1, 2, 3, 4, 5, 6, 7] rfl rfl rfl rfl rfl (by exact ⟨nM rfl, nM rfl, nQ rfl (by exact qV (yv rfl) rfl), nQ rfl (by exact qV (xz rfl Tryd.runUnderlying49 rfl Tryd.sizeOf47 rfl) rfl), nQ rfl (by exact qV (u5 1 rfl L7 rfl ([.slice LK LF.literals_.lengths_.length LL, .slice LM LF.literals_.codes_.length LN]) rfl rfl Tryd.isAgg47 Tryd.sizeOf47) rfl), nQ rfl (by exact qV (xz rfl Tryd.runUnderlying32 rfl Tryd.sizeOf5 rfl) rfl), nQ rfl (by exact qV (ye 0 rfl Md rfl rfl Tryd.isAgg5) rfl), nQ rfl (by exact qV (u2 rfl Tryd.runUnderlying5 Tryd.runUnderlying3) rfl), trivial⟩) fun D l a w ho hcl hav hpre hm hE hk hA hst => ?_
     have hS := (Ss.mk hE hst).env2 (e' := [(15, qO LH 0), (19, .agg ⟨[.slice LK LF.literals_.lengths_.length LL, .slice LM LF.literals_.codes_.length LN]⟩), (22, .int .i64 (wr .i64 (rd LG LI).Lit_))]) ⟨rfl, rfl, rfl, trivial⟩
     refine qR rfl <| qN hS rfl Tryd.call41 (yq hG K (qs.mk (qW.mk (qt.mk LR) LJ) LF.literals_ LF.distances_) LF.literals_ (wr .i64 (rd LG LI).Lit_) LH Ma Mb Mc L9 LK LL LS LM LN LT LU LV LW LX LY LZ L7 Mf Mg Mh Mi Mj (hS.st.part 6 [1, 2, 3, 4, 5, 6, 0] (by kernel_rfl)) (qv hM) (fun MC M5 M6 Ms MM MN w hM M7 M8 hst => qG hS.ev hst.appF rfl fun hS => ?_))
     replace hS : Ss _ _ _ H [MN, MM, LS, LT, LW, LZ, Me] F _ _ := hS
     refine qJ ?_
     replace hst := hS.st
     obtain ⟨hcl, hmust, hav2, hA⟩ := dn (vals' := [some (qO LH 0), some (qO LH 0), some (qO LH 0), some (qO LH 2), some (.agg ⟨[.slice LK LF.literals_.lengths_.length LL, .slice LM LF.literals_.codes_.length LN]⟩), some (qO L0 0), some (.int .u8 ((rd LG LI).Lit_)), some (.int .i64 (wr .i64 (rd LG LI).Lit_)), some (.tuple ⟨[]⟩)]) 8 [(0, 8), (4, 8), (7, 8), (3, 4), (6, 7), (2, 3), (5, 6), (1, 2)] hA hcl hav hm hpre hk rfl rfl rfl rfl rfl rfl rfl
     clear hm hav
     refine x6 hA hst ho hcl hmust [] rfl rfl rfl trivial fun a w hS => ?_
     replace hS := hS.env2 (e' := [(0, qO LH 0), (6, .slice Mq LG.length Mr), (7, .int .i64 (LG.length : Int)), (8, .int .i64 LI)]) ⟨rfl, rfl, rfl, rfl, trivial⟩
     refine qf <| wp_exit <| qC (q9 (qf ?_))
     refine zI <| sB hS rfl fun hS => sM hS rfl fun hS => zg <| qf ?_
     exact Mw _ _ ⟨MC, M5, M6, Ms, MM, MN, (qh (LI + (1 : Int))), hS.to [0, 1, 2, 3, 4, 5] (by kernel_rfl) ⟨rfl, rfl, rfl, rfl, trivial⟩, M7, M8, hM⟩
    ·refine wp_skip ?_
     refine qf <| wp_seq <| q8 (vals := [some (qO LH 0), some (qO LH 0), some (qO LH 0), some (qO LH 2), some (.agg ⟨[.slice LK LF.literals_.lengths_.length LL, .slice LM LF.literals_.codes_.length LN]⟩), some (qO L0 1), some (.int .i64 ((rd LG LI).Len_)), none, none]) hS xw rfl ?_
     intro l w ho hcl hA hst
     refine yV hA hst ho hcl xk xx 7 [0, 1, 2, 3, 4, 5, 6] rfl rfl rfl rfl rfl (by exact ⟨nM rfl, nM rfl, nQ rfl (by exact qV (yv rfl) rfl), nQ rfl (by exact qV (xz rfl Tryd.runUnderlying49 rfl Tryd.sizeOf47 rfl) rfl), nQ rfl (by exact qV (u5 1 rfl L7 rfl ([.slice LK LF.literals_.lengths_.length LL, .slice LM LF.literals_.codes_.length LN]) rfl rfl Tryd.isAgg47 Tryd.sizeOf47) rfl), nQ rfl (by exact qV (xz rfl Tryd.runUnderlying32 rfl Tryd.sizeOf3 rfl) rfl), nQ rfl (by exact qV (ye 0 rfl Md rfl rfl Tryd.isAgg3) rfl), trivial⟩) fun D l a w ho hcl hav hpre hm hE hk hA hst => ?_
     have hS := (Ss.mk hE hst).env2 (e' := [(30, .int .i64 ((rd LG LI).Len_))]) ⟨rfl, trivial⟩
     refine qR rfl <| qN hS rfl Tryd.call35 (ut hG K ((rd LG LI).Len_) (hS.st.part 0 [0, 1, 2, 3, 4, 5, 6] (by kernel_rfl)) (qv hM) (fun LP L1 L3 w hM  hst => qG hS.ev hst.appF rfl fun hS => ?_))
     replace hS : Ss _ _ _ H [Me, Ma, L9, LS, LT, LW, LZ] F _ _ := hS
     refine qJ ?_
     replace hst := hS.st
     obtain ⟨hcl, hmust, hav2, hA⟩ := dn (vals' := [some (qO LH 0), some (qO LH 0), some (qO LH 0), some (qO LH 2), some (.agg ⟨[.slice LK LF.literals_.lengths_.length LL, .slice LM LF.literals_.codes_.length LN]⟩), some (qO L0 1), some (.int .i64 ((rd LG LI).Len_)), some (.agg ⟨[.int .i64 LP, .int .i64 L1, .int .u32 L3]⟩), none]) 7 [(6, 7), (5, 6)] hA hcl hav hm hpre hk rfl rfl rfl rfl rfl rfl rfl
     clear hm hav
     refine yV hA hst ho hcl hav2 hmust 8 [0, 1, 2, 3, 4] rfl rfl rfl rfl rfl (by exact ⟨nM rfl, nM rfl, nQ rfl (by exact qV (yv rfl) rfl), nQ rfl (by exact qV (xz rfl Tryd.runUnderlying49 rfl Tryd.sizeOf47 rfl) rfl), nQ rfl (by exact qV (u5 1 rfl L7 rfl ([.slice LK LF.literals_.lengths_.length LL, .slice LM LF.literals_.codes_.length LN]) rfl rfl Tryd.isAgg47 Tryd.sizeOf47) rfl), trivial⟩) fun D l a w ho hcl hav hpre hm hE hk hA hst => ?_
     have hS := (Ss.mk hE hst).env2 (e' := [(24, qO LH 0), (28, .agg ⟨[.slice LK LF.literals_.lengths_.length LL, .slice LM LF.literals_.codes_.length LN]⟩), (31, .agg ⟨[.int .i64 LP, .int .i64 L1, .int .u32 L3]⟩)]) ⟨rfl, rfl, rfl, trivial⟩
     refine qR rfl <| qN hS rfl Tryd.call50 (vM hG K (qs.mk (qW.mk (qt.mk LR) LJ) LF.literals_ LF.distances_) LF.literals_ (xV.mk LP L1 L3) LH Ma Mb Mc L9 LK LL LS LM LN LT LU LV LW LX LY LZ L7 Mf Mg Mh Mi Mj (hS.st.part 6 [1, 2, 3, 4, 5, 6, 0] (by kernel_rfl)) (qv hM) (fun MD M9 Na Mt My Mz w hM Nb MA hst => qG hS.ev hst.appF rfl fun hS => ?_))
     replace hS : Ss _ _ _ H [Mz, My, LS, LT, LW, LZ, Me] F _ _ := hS
     refine qJ ?_
     replace hst := hS.st
     obtain ⟨hcl, hmust, hav2, hA⟩ := dn (vals' := [some (qO LH 0), some (qO LH 0), some (qO LH 0), some (qO LH 2), some (.agg ⟨[.slice LK LF.literals_.lengths_.length LL, .slice LM LF.literals_.codes_.length LN]⟩), some (qO L0 1), some (.int .i64 ((rd LG LI).Len_)), some (.agg ⟨[.int .i64 LP, .int .i64 L1, .int .u32 L3]⟩), some (.tuple ⟨[]⟩)]) 8 [(0, 8), (4, 8), (7, 8), (3, 4), (6, 7), (2, 3), (5, 6), (1, 2)] hA hcl hav hm hpre hk rfl rfl rfl rfl rfl rfl rfl
     clear hm hav
     refine x6 hA hst ho hcl hmust [] rfl rfl rfl trivial fun a w hS => ?_
     replace hS := hS.env2 (e' := [(0, qO LH 0), (5, qO L0 0), (6, .slice Mq LG.length Mr), (7, .int .i64 (LG.length : Int)), (8, .int .i64 LI)]) ⟨rfl, rfl, rfl, rfl, rfl, trivial⟩
     refine qf <| q8 (vals := [some (qO LH 0), some (qO LH 0), some (qO LH 0), some (qO LH 4), some (.agg ⟨[.slice LU LF.distances_.lengths_.length LV, .slice LX LF.distances_.codes_.length LY]⟩), some (qO L0 2), some (.int .i64 ((rd LG LI).Dist_)), none, none]) hS xw rfl ?_
     intro l w ho hcl hA hst
     refine yV hA hst ho hcl xk xx 7 [0, 1, 2, 3, 4, 5, 6] rfl rfl rfl rfl rfl (by exact ⟨nM rfl, nM rfl, nQ rfl (by exact qV (yv rfl) rfl), nQ rfl (by exact qV (xz rfl Tryd.runUnderlying49 rfl Tryd.sizeOf47 rfl) rfl), nQ rfl (by exact qV (u5 0 rfl MA rfl ([.slice LU LF.distances_.lengths_.length LV, .slice LX LF.distances_.codes_.length LY]) rfl rfl Tryd.isAgg47 Tryd.sizeOf47) rfl), nQ rfl (by exact qV (xz rfl Tryd.runUnderlying32 rfl Tryd.sizeOf3 rfl) rfl), nQ rfl (by exact qV (ye 6 rfl Md rfl rfl Tryd.isAgg3) rfl), trivial⟩) fun D l a w ho hcl hav hpre hm hE hk hA hst => ?_
     have hS := (Ss.mk hE hst).env2 (e' := [(39, .int .i64 ((rd LG LI).Dist_))]) ⟨rfl, trivial⟩
     refine qR rfl <| qN hS rfl Tryd.call36 (vQ hG K ((rd LG LI).Dist_) (hS.st.part 0 [0, 1, 2, 3, 4, 5, 6] (by kernel_rfl)) (qv hM) (fun LQ L4 L5 w hM  hst => qG hS.ev hst.appF rfl fun hS => ?_))
     replace hS : Ss _ _ _ H [Mz, My, LS, LT, LW, LZ, Me] F _ _ := hS
     refine qJ ?_
     replace hst := hS.st
     obtain ⟨hcl, hmust, hav2, hA⟩ := dn (vals' := [some (qO LH 0), some (qO LH 0), some (qO LH 0), some (qO LH 4), some (.agg ⟨[.slice LU LF.distances_.lengths_.length LV, .slice LX LF.distances_.codes_.length LY]⟩), some (qO L0 2), some (.int .i64 ((rd LG LI).Dist_)), some (.agg ⟨[.int .i64 LQ, .int .i64 L4, .int .u32 L5]⟩), none]) 7 [(6, 7), (5, 6)] hA hcl hav hm hpre hk rfl rfl rfl rfl rfl rfl rfl
     clear hm hav
     refine yV hA hst ho hcl hav2 hmust 8 [0, 1, 2, 3, 4] rfl rfl rfl rfl rfl (by exact ⟨nM rfl, nM rfl, nQ rfl (by exact qV (yv rfl) rfl), nQ rfl (by exact qV (xz rfl Tryd.runUnderlying49 rfl Tryd.sizeOf47 rfl) rfl), nQ rfl (by exact qV (u5 0 rfl MA rfl ([.slice LU LF.distances_.lengths_.length LV, .slice LX LF.distances_.codes_.length LY]) rfl rfl Tryd.isAgg47 Tryd.sizeOf47) rfl), trivial⟩) fun D l a w ho hcl hav hpre hm hE hk hA hst => ?_
     have hS := (Ss.mk hE hst).env2 (e' := [(33, qO LH 0), (37, .agg ⟨[.slice LU LF.distances_.lengths_.length LV, .slice LX LF.distances_.codes_.length LY]⟩), (40, .agg ⟨[.int .i64 LQ, .int .i64 L4, .int .u32 L5]⟩)]) ⟨rfl, rfl, rfl, trivial⟩
     refine qR rfl <| qN hS rfl Tryd.call50 (vS hG K (qs.mk (qW.mk (qt.mk MD) Mt) LF.literals_ LF.distances_) LF.distances_ (xV.mk LQ L4 L5) LH Mz M9 Na My LK LL LS LM LN LT LU LV LW LX LY LZ MA Nb Mg Mh Mi Mj (hS.st.part 6 [0, 1, 2, 3, 4, 5, 6] (by kernel_rfl)) (qv hM) (fun ME Nc Nd Mu MO MP w hM Nf Ng hst => qG hS.ev hst.appF rfl fun hS => ?_))
     replace hS : Ss _ _ _ H [MP, MO, LS, LT, LW, LZ, Me] F _ _ := hS
     refine qJ ?_
     replace hst := hS.st
     obtain ⟨hcl, hmust, hav2, hA⟩ := dn (vals' := [some (qO LH 0), some (qO LH 0), some (qO LH 0), some (qO LH 4), some (.agg ⟨[.slice LU LF.distances_.lengths_.length LV, .slice LX LF.distances_.codes_.length LY]⟩), some (qO L0 2), some (.int .i64 ((rd LG LI).Dist_)), some (.agg ⟨[.int .i64 LQ, .int .i64 L4, .int .u32 L5]⟩), some (.tuple ⟨[]⟩)]) 8 [(0, 8), (4, 8), (7, 8), (3, 4), (6, 7), (2, 3), (5, 6), (1, 2)] hA hcl hav hm hpre hk rfl rfl rfl rfl rfl rfl rfl
     clear hm hav
     refine x6 hA hst ho hcl hmust [] rfl rfl rfl trivial fun a w hS => ?_
     replace hS := hS.env2 (e' := [(0, qO LH 0), (6, .slice Mq LG.length Mr), (7, .int .i64 (LG.length : Int)), (8, .int .i64 LI)]) ⟨rfl, rfl, rfl, rfl, trivial⟩
     refine zw (qf ?_)
     refine zI <| sB hS rfl fun hS => sM hS rfl fun hS => zg <| qf ?_
     exact Mw _ _ ⟨ME, Nc, Nd, Mu, MO, MP, (qh (LI + (1 : Int))), hS.to [0, 1, 2, 3, 4, 5] (by kernel_rfl) ⟨rfl, rfl, rfl, rfl, trivial⟩, Nf, Ng, hM⟩
   ·refine wp_exit ?_
    refine qC (qC (q9 (qf ?_)))
    exact MW _ _ ⟨LR, Mb, Mc, LJ, L9, Ma, hS.to [0, 1, 2, 3, 4, 5] (by kernel_rfl) ⟨rfl, trivial⟩, Mf, L7, hM⟩
 ·intro a w hI
  obtain ⟨L8, Ml, Mm, LO, Mn, Mp, hS, M0, MB, hM⟩ := hI
  rw [zh.j2] at hM
  refine zI <| sM hS rfl fun hS => sM hS rfl fun hS => sO hS (yv rfl) rfl fun hS => sO hS (xz rfl Tryd.runUnderlying49 rfl Tryd.sizeOf47 rfl) rfl fun hS => sO hS (u5 0 rfl MB rfl ([.slice LK LF.literals_.lengths_.length LL, .slice LM LF.literals_.codes_.length LN]) rfl rfl Tryd.isAgg47 Tryd.sizeOf47) rfl fun hS => qN hS rfl Tryd.call41 (yq hG K (qs.mk (qW.mk (qt.mk L8) LO) LF.literals_ LF.distances_) LF.literals_ (256 : Int) LH Mp Ml Mm Mn LK LL LS LM LN LT LU LV LW LX LY LZ MB M0 Mg Mh Mi Mj (hS.st.part 6 [0, 1, 2, 3, 4, 5] (by kernel_rfl)) (qv hM) (fun MF Nh Ni Mv MQ MR w hM Nj Nk hst => qG hS.ev hst.appF rfl fun hS => ?_))
  replace hS : Ss _ _ _ H [MR, MQ, LS, LT, LW, LZ] F _ _ := hS
  refine zg ?_
  exact yT (rs := []) hS rfl rfl (hret MF Nh Ni Mv MQ MR _ (zn hM) Nj Nk (hS.st.pick [0, 1, 2, 3, 4, 5] (by kernel_rfl)))
theorem yw {H : xT} {F : List qp} {w : World} {R : Ending → World → Prop} {kr : (List UInt8) → Prop} {kp : Value → Prop} (hG : Gl H) (K : Nat) (LF : qs) (LM : Nat) (LG : qp) (LN : Option Addr) (LO : Nat) (LH : qp) (LP : Option Addr) (LQ : Nat) (LI : qp) (LR : Option Addr) (LS : Nat) (LJ : qp) (LT : Option Addr) (LU : Nat) (LK : qp) (LV : Option Addr) (LW : Nat) (LL : qp) (LY : xO LG LM ([.int .i64 LF.Writer_.place_.at_, .slice LN LF.Writer_.bytes_.length LO, .slice LP LF.literals_.lengths_.length LQ, .slice LR LF.literals_.codes_.length LS, .slice LT LF.distances_.lengths_.length LU, .slice LV LF.distances_.codes_.length LW]) 49) (LZ : xb 5 (ci .u8) 1 LN LF.Writer_.bytes_ LO LH) (L1 : xb 3 (ci .i64) 1 LP LF.literals_.lengths_ LQ LI) (L3 : xb 3 (ci .i64) 1 LR LF.literals_.codes_ LS LJ) (L4 : xb 3 (ci .i64) 1 LT LF.distances_.lengths_ LU LK) (L5 : xb 3 (ci .i64) 1 LV LF.distances_.codes_ LW LL)
    (hS : St w H [LG, LH, LI, LJ, LK, LL] F) (hm : (zY.m K LF).wp kr kp)
    (hret : ∀ (LX : List UInt8) (w : World), kr LX → St w H [LG, LH, LI, LJ, LK, LL] F → R (.returned (xS LX)) w) :
    Calls Tryd.prog 25 ⟨[qO LM 0]⟩ w R := by
 refine enter Tryd.func25 rfl Tryd.ntmps25 rfl hS fun a w hS => ?_
 have hM := hm; clear hm
 rw [zY.m] at hM
 refine qr <| sA hS rfl fun hS => qJ <| wp_seq <| qr <| sM hS rfl fun hS => sO hS (XJ rfl rfl Tryd.runUnderlying103) rfl fun hS => qJ <| Xd hS rfl <| wp_skip <| qf <| qr <| sM hS rfl fun hS => sO hS (yv rfl) rfl fun hS => sO hS (xz rfl Tryd.runUnderlying44 rfl Tryd.sizeOf38 rfl) rfl fun hS => sO hS (ye 0 rfl LY rfl rfl Tryd.isAgg38) rfl fun hS => sO hS (GP rfl Tryd.runUnderlying38 Tryd.runUnderlying5 Tryd.runUnderlying9 (LZ.rd (i := 1) rfl)) rfl fun hS => zF (v := xS) (x0 := (LF.Writer_.bytes_.map QU)) hS (xB rfl) rfl fun L0 a w hz hS => ?_
 have hM := qE hz hM; clear hz
 refine qJ <| wp_ret ?_
 exact zX (rs := [2]) hS rfl rfl (hret L0 _ (zn hM) (hS.st.pick [0, 1, 2, 3, 4, 5] (by kernel_rfl)))
theorem uX {H : xT} {F : List qp} {w : World} {R : Ending → World → Prop} {kr : ((List UInt8) × Int) → Prop} {kp : Value → Prop} (hG : Gl H) (K : Nat) (l_7 : List qB) (A8 : Option Addr) (c9 : Nat) (L8 : jQ H [] F qB.cells A8 l_7) (L9 : l_7.length ≤ c9)
    (hS : St w H [] F) (hm : (yI.m K l_7).wp kr kp)
    (hret : ∀ (L0 : List UInt8) (L1 : Int) (w : World), kr (L0, L1) → St w H [] F → R (.returned (.tuple ⟨[xS L0, .int .i64 L1]⟩)) w) :
    Calls Tryd.prog 12 ⟨[.slice A8 l_7.length c9]⟩ w R := by
 refine enter Tryd.func12 rfl Tryd.ntmps12 rfl hS fun a w hS => ?_
 have hM := hm; clear hm
 rw [yI.m] at hM
 refine qr <| sA hS rfl fun hS => sA hS rfl fun hS => qJ <| wp_seq <| qr <| sM hS rfl fun hS => qN hS rfl Tryd.call21 (Qb hG K l_7 A8 c9 (L8.app _) L9 (hS.st.part 0 [] (by kernel_rfl)) (qv hM) (fun MF w hM  hst => qG hS.ev hst.appF rfl fun hS => ?_))
 replace hS : Ss _ _ _ H [] F _ _ := hS
 refine sO hS (un rfl rfl) rfl fun hS => qJ <| qI hS rfl hM (fun Mn hM => ?_) (fun Mn hM => ?_)
 ·refine wp_seq ?_
  refine zI <| sA hS rfl fun hS => sA hS rfl fun hS => qJ <| wp_ret <| zE ?_
  exact zX (rs := [2, 3]) hS rfl rfl (hret ([] : List UInt8) (1 : Int) _ (zn hM) (hS.st.pick [] (by kernel_rfl)))
 ·refine wp_skip ?_
  refine qf <| qr <| sO hS (X4 ([.int .i64 (0 : Int), .slice none 0 0, .slice none 0 0, .slice none 0 0, .slice none 0 0, .slice none 0 0]) [(0, 2), (2, 2), (4, 2)] Tryd.zeroValue49 Tryd.runUnderlying49 (by intro w; simp [Tryd.sizeOf44, Tryd.sizeOf47]) rfl rfl) rfl fun hS => bx ([.int .i64 (0 : Int), .slice none 0 0, .slice none 0 0, .slice none 0 0, .slice none 0 0, .slice none 0 0]) hS rfl rfl rfl fun w Mp My Mq hS => ?_
  obtain ⟨Mx, Mr, hS⟩ := hS.nilV 5 (ci .u8) 1
  obtain ⟨Mj, Mz, hS⟩ := hS.nilV 3 (ci .i64) 1
  obtain ⟨Mk, MA, hS⟩ := hS.nilV 3 (ci .i64) 1
  obtain ⟨Ml, MB, hS⟩ := hS.nilV 3 (ci .i64) 1
  obtain ⟨Mm, MC, hS⟩ := hS.nilV 3 (ci .i64) 1
  refine sA hS rfl fun hS => qJ <| qr <| sM hS rfl fun hS => sM hS rfl fun hS => qN hS rfl Tryd.call22 (Qu hG K  (hS.st.part 0 [0, 1, 2, 3, 4, 5] (by kernel_rfl)) (qv hM) (fun LN LO LF LJ LP LQ LH LK LS LT LG LL LU LV LI LM w hM L3 L4 L5 L6 hst => qG hS.ev hst.appF rfl fun hS => ?_))
  replace hS : Ss _ _ _ H [LJ, LK, LL, LM, Mm, Ml, Mk, Mj, Mx, My] F _ _ := hS
  refine sM hS rfl fun hS => sO hS (ex rfl rfl) rfl fun hS => sO hS (ex rfl rfl) rfl fun hS => sO hS (yv rfl) rfl fun hS => sO hS (xz rfl Tryd.runUnderlying49 rfl Tryd.sizeOf47 rfl) rfl fun hS => Zo 9 ([.slice LN LF.length LO, .slice LP LH.length LQ]) ([.int .i64 (0 : Int), .slice none ([] : List Int).length (0), .slice LN LF.length LO, .slice LP LH.length LQ, .slice none ([] : List Int).length (0), .slice none ([] : List Int).length (0)]) hS rfl rfl Mq rfl rfl Tryd.sizeOf47 (by simp [Value.oneCell']) (Nat.le_of_ble_eq_true rfl) rfl fun w MD Ma hS => sO hS (yv rfl) rfl fun hS => sO hS (xz rfl Tryd.runUnderlying49 rfl Tryd.sizeOf47 rfl) rfl fun hS => Zo 9 ([.slice LS LG.length LT, .slice LU LI.length LV]) ([.int .i64 (0 : Int), .slice none ([] : List Int).length (0), .slice LN LF.length LO, .slice LP LH.length LQ, .slice LS LG.length LT, .slice LU LI.length LV]) hS rfl rfl Ma rfl rfl Tryd.sizeOf47 (by simp [Value.oneCell']) (Nat.le_of_ble_eq_true rfl) rfl fun w Ms Mb hS => qJ <| qr <| sM hS rfl fun hS => sO hS (yv rfl) rfl fun hS => sO hS (xz rfl Tryd.runUnderlying49 rfl Tryd.sizeOf44 rfl) rfl fun hS => qN hS rfl Tryd.call23 (zk hG K (qs.mk (qW.mk (qt.mk (0 : Int)) ([] : List Int)) (qw.mk LF LH) (qw.mk LG LI)) (3 : Int) (3 : Int) Mp Ms none (0) Mx LN LO LJ LP LQ LK LS LT LL LU LV LM Mb Mr L3 L4 L5 L6 (hS.st.part 6 [9, 8, 0, 1, 2, 3, 4, 5, 6, 7] (by kernel_rfl)) (qv hM) (fun ME L7 Mt Mu LW Mc Md w hM Mv Mw hst => qG hS.ev hst.appF rfl fun hS => ?_))
  replace hS : Ss _ _ _ H [Md, Mc, LJ, LK, LL, LM, Mm, Ml, Mk, Mj] F _ _ := hS
  refine qJ <| qr <| sM hS rfl fun hS => sM hS rfl fun hS => qN hS rfl Tryd.call24 (jE hG K (qs.mk (qW.mk (qt.mk L7) LW) (qw.mk LF LH) (qw.mk LG LI)) l_7 Mp Md Mt Mu Mc LN LO LJ LP LQ LK LS LT LL LU LV LM A8 c9 Mw Mv L3 L4 L5 L6 (L8.app _) L9 (hS.st.part 6 [0, 1, 2, 3, 4, 5, 6, 7, 8, 9] (by kernel_rfl)) (qv hM) (fun LZ Me Mf LR LX LY w hM Mg Mh hst => qG hS.ev hst.appF rfl fun hS => ?_))
  replace hS : Ss _ _ _ H [LY, LX, LJ, LK, LL, LM, Mm, Ml, Mk, Mj] F _ _ := hS
  refine qJ <| qr <| sM hS rfl fun hS => sO hS (yv rfl) rfl fun hS => sO hS (xz rfl Tryd.runUnderlying49 rfl Tryd.sizeOf44 rfl) rfl fun hS => qN hS rfl Tryd.call25 (yw hG K (qs.mk (qW.mk (qt.mk LZ) LR) (qw.mk LF LH) (qw.mk LG LI)) Mp LY Me Mf LX LN LO LJ LP LQ LK LS LT LL LU LV LM Mh Mg L3 L4 L5 L6 (hS.st.part 6 [0, 1, 2, 3, 4, 5, 6, 7, 8, 9] (by kernel_rfl)) (qv hM) (fun Mi w hM  hst => qG hS.ev hst.appF rfl fun hS => ?_))
  replace hS : Ss _ _ _ H [LY, LX, LJ, LK, LL, LM, Mm, Ml, Mk, Mj] F _ _ := hS
  refine sA hS rfl fun hS => sA hS rfl fun hS => qJ <| wp_ret ?_
  exact zX (rs := [2, 3]) hS rfl rfl (hret Mi (0 : Int) _ (zn hM) (hS.st.pick [] (by kernel_rfl)))
theorem Zy {H : xT} {F : List qp} {w : World} {R : Ending → World → Prop} {kr : Bool → Prop} {kp : Value → Prop} (hG : Gl H) (K : Nat) (LF : Int)
    (hS : St w H [] F) (hm : (jJ.m K LF).wp kr kp)
    (hret : ∀ (LG : Bool) (w : World), kr LG → St w H [] F → R (.returned (.bool LG)) w) :
    Calls Tryd.prog 55 ⟨[.int .i64 LF]⟩ w R := by
 refine enter Tryd.func55 rfl Tryd.ntmps55 rfl hS fun a w hS => ?_
 have hM := hm; clear hm
 rw [jJ.m] at hM
 refine qr <| sA hS rfl fun hS => qJ <| qr <| sM hS rfl fun hS => sB hS rfl fun hS => sM hS rfl fun hS => y9 2 false 5 (b := (decide (LF < (0 : Int)))) (r := (decide (LF > (1099511627776 : Int)))) hS rfl rfl rfl rfl rfl rfl rfl (fun hb a w hS K hK => ?_) rfl fun a w hS => ?_
 ·refine z3 hS rfl rfl rfl hb (mv rfl) rfl fun a w hS => ?_
  refine z3 hS rfl rfl rfl hb (jA rfl rfl rfl) rfl fun a w hS => ?_
  exact zg (hK _ _ (hS.up 2 rfl rfl))
 refine zF (v := Value.bool) (x0 := ((decide (LF < (0 : Int))) || (decide (LF > (1099511627776 : Int))))) hS (xB rfl) rfl fun LH a w hz hS => ?_
 have hM := qE hz hM; clear hz
 refine qJ <| wp_ret ?_
 exact zX (rs := [2]) hS rfl rfl (hret LH _ (zn hM) (hS.st.pick [] (by kernel_rfl)))
theorem jD {H : xT} {F : List qp} {w : World} {R : Ending → World → Prop} {kr : Int → Prop} {kp : Value → Prop} (hG : Gl H) (K : Nat) (LF : List Int) (LH : Option Addr) (LI : Nat) (LJ : jQ H [] F (ci .i64) LH LF) (LQ : LF.length ≤ LI)
    (hS : St w H [] F) (hm : (zB.m K LF).wp kr kp)
    (hret : ∀ (LL : Int) (w : World), kr LL → St w H [] F → R (.returned (.int .i64 LL)) w) :
    Calls Tryd.prog 80 ⟨[.slice LH LF.length LI, yA 55 [] []]⟩ w R := by
 refine enter Tryd.func80 rfl Tryd.ntmps80 rfl hS fun a w hS => ?_
 have hM := hm; clear hm
 rw [zB.m] at hM
 refine qr <| sA hS rfl fun hS => qJ <| wp_seq <| qr <| sM hS rfl fun hS => sO hS (ym rfl Tryd.runUnderlying45) rfl fun hS => sM hS rfl fun hS => qJ <| xG <| zt (fun LM a w => ∃ (LG : Int), Ss 19 [] [(0, .slice LH LF.length LI), (1, yA 55 [] []), (7, .int .i64 (LF.length : Int)), (8, .int .i64 LG)] H [] F a w ∧ (zB.l1 K LF LM LG).wp kr kp) K ?_ ?_ ?_
 ·exact ⟨(0 : Int), hS.to [] (by kernel_rfl) ⟨rfl, rfl, rfl, rfl, trivial⟩, hM⟩
 ·intro a w hI; obtain ⟨_, _, hM⟩ := hI; exact zm hM
 ·intro LM a w hI LR LN
  obtain ⟨LG, hS, hM⟩ := hI
  rw [zB.l1] at hM
  refine qr <| sB hS rfl fun hS => qJ <| wp_seq <| qI hS rfl hM (fun LO hM => ?_) (fun LO hM => ?_)
  ·refine wp_skip ?_
   refine qf <| wp_seq <| xG <| qr <| sM hS rfl fun hS => sA hS rfl fun hS => qJ <| qr <| sM hS rfl fun hS => sM hS rfl fun hS => sM hS rfl fun hS => ?_
   obtain ⟨LK, hM⟩ := qH hM
   refine sO hS (xZ rfl rfl Tryd.runUnderlying45 Tryd.sizeOf3 LJ.wk (fun _ => rfl) rfl LK) rfl fun hS => sO hS (yH rfl LJ.wk (fun _ => rfl) LK rfl Tryd.isAgg3) rfl fun hS => vw hS rfl rfl Tryd.call55 (Zy hG K (rd LF LG) (hS.st.part 0 [] (by kernel_rfl)) (qv hM) (fun LS w hM  hst => qG hS.ev hst.appF rfl fun hS => ?_))
   replace hS : Ss _ _ _ H [] F _ _ := hS
   refine qJ <| qI hS rfl hM (fun LP hM => ?_) (fun LP hM => ?_)
   ·refine wp_seq ?_
    refine zI <| sM hS rfl fun hS => sA hS rfl fun hS => qJ <| wp_ret <| yp (zE (zE (yp (zE ?_))))
    exact zX (rs := [4]) hS rfl rfl (hret LG _ (zn hM) (hS.st.pick [] (by kernel_rfl)))
   ·refine wp_skip ?_
    refine zw (qf ?_)
    refine zI <| sB hS rfl fun hS => sM hS rfl fun hS => zg <| qf ?_
    exact LN _ _ ⟨(qh (LG + (1 : Int))), hS.to [] (by kernel_rfl) ⟨rfl, rfl, rfl, rfl, trivial⟩, hM⟩
  ·refine wp_exit ?_
   refine qC (qC (q9 (qf ?_)))
   refine qr <| sA hS rfl fun hS => qJ <| wp_ret ?_
   exact zX (rs := [4]) hS rfl rfl (hret (-1 : Int) _ (zn hM) (hS.st.pick [] (by kernel_rfl)))
theorem jm {H : xT} {F : List qp} {w : World} {R : Ending → World → Prop} {kr : Bool → Prop} {kp : Value → Prop} (hG : Gl H) (K : Nat) (LF : List Int) (LG : Option Addr) (LH : Nat) (LJ : jQ H [] F (ci .i64) LG LF) (LK : LF.length ≤ LH)
    (hS : St w H [] F) (hm : (xE.m K LF).wp kr kp)
    (hret : ∀ (LI : Bool) (w : World), kr LI → St w H [] F → R (.returned (.bool LI)) w) :
    Calls Tryd.prog 54 ⟨[.slice LG LF.length LH, yA 55 [] []]⟩ w R := by
 refine enter Tryd.func54 rfl Tryd.ntmps54 rfl hS fun a w hS => ?_
 have hM := hm; clear hm
 rw [xE.m] at hM
 refine qr <| sA hS rfl fun hS => qJ <| qr <| sM hS rfl fun hS => sM hS rfl fun hS => qN hS rfl Tryd.call80 (jD hG K LF LG LH (LJ.app _) LK (hS.st.part 0 [] (by kernel_rfl)) (qv hM) (fun LL w hM  hst => qG hS.ev hst.appF rfl fun hS => ?_))
 replace hS : Ss _ _ _ H [] F _ _ := hS
 refine sB hS rfl fun hS => zF (v := Value.bool) (x0 := (decide (LL ≥ (0 : Int)))) hS (xB rfl) rfl fun LM a w hz hS => ?_
 have hM := qE hz hM; clear hz
 refine qJ <| wp_ret ?_
 exact zX (rs := [4]) hS rfl rfl (hret LM _ (zn hM) (hS.st.pick [] (by kernel_rfl)))
def qg (p : qp) (x : qb) (vs : List Value) : Prop :=
  ∃ (A0 : Option Addr) (c0 : Nat), vs = [.int .i64 x.often_, .slice A0 x.symbols_.length c0] ∧ Pl p (ci .i64) A0 x.symbols_ ∧ x.symbols_.length ≤ c0
theorem qg.mono {p p' : qp} (hs : ∀ q ∈ p, q ∈ p') {x : qb} {vs : List Value} (h : qg p x vs) : qg p' x vs := by
  obtain ⟨A0, c0, h0, h1, h2⟩ := h
  exact ⟨A0, c0, h0, h1.mono hs, h2⟩
theorem ur {H : xT} {F : List qp} {w : World} {R : Ending → World → Prop} {kr : Bool → Prop} {kp : Value → Prop} (hG : Gl H) (K : Nat) (LF : Int)
    (hS : St w H [] F) (hm : (jd.m K LF).wp kr kp)
    (hret : ∀ (LG : Bool) (w : World), kr LG → St w H [] F → R (.returned (.bool LG)) w) :
    Calls Tryd.prog 82 ⟨[.int .i64 LF]⟩ w R := by
 refine enter Tryd.func82 rfl Tryd.ntmps82 rfl hS fun a w hS => ?_
 have hM := hm; clear hm
 rw [jd.m] at hM
 refine qr <| sA hS rfl fun hS => qJ <| qr <| sM hS rfl fun hS => sM hS rfl fun hS => sB hS rfl fun hS => zF (v := Value.bool) (x0 := (LF != LF)) hS (xB rfl) rfl fun LH a w hz hS => ?_
 have hM := qE hz hM; clear hz
 refine qJ <| wp_ret ?_
 exact zX (rs := [2]) hS rfl rfl (hret LH _ (zn hM) (hS.st.pick [] (by kernel_rfl)))
theorem vO {H : xT} {F : List qp} {w : World} {R : Ending → World → Prop} {kr : Int → Prop} {kp : Value → Prop} (hG : Gl H) (K : Nat) (LF : Int) (LG : Int)
    (hS : St w H [] F) (hm : (yy.m K LF LG).wp kr kp)
    (hret : ∀ (LH : Int) (w : World), kr LH → St w H [] F → R (.returned (.int .i64 LH)) w) :
    Calls Tryd.prog 58 ⟨[.int .i64 LF, .int .i64 LG]⟩ w R := by
 refine enter Tryd.func58 rfl Tryd.ntmps58 rfl hS fun a w hS => ?_
 have hM := hm; clear hm
 rw [yy.m] at hM
 refine qr <| sA hS rfl fun hS => qJ <| qr <| sM hS rfl fun hS => qN hS rfl Tryd.call82 (ur hG K LF (hS.st.part 0 [] (by kernel_rfl)) (qv hM) (fun LN w hM  hst => qG hS.ev hst.appF rfl fun hS => ?_))
 replace hS : Ss _ _ _ H [] F _ _ := hS
 refine sA hS rfl fun hS => qJ <| qr <| sM hS rfl fun hS => qN hS rfl Tryd.call82 (ur hG K LG (hS.st.part 0 [] (by kernel_rfl)) (qv hM) (fun LO w hM  hst => qG hS.ev hst.appF rfl fun hS => ?_))
 replace hS : Ss _ _ _ H [] F _ _ := hS
 refine sA hS rfl fun hS => qJ <| wp_seq <| qr <| sM hS rfl fun hS => qJ <| qI hS rfl hM (fun LI hM => ?_) (fun LI hM => ?_)
 ·refine wp_seq ?_
  refine qr <| sM hS rfl fun hS => qJ <| qI hS rfl hM (fun LJ hM => ?_) (fun LJ hM => ?_)
  ·refine wp_seq ?_
   refine zI <| sA hS rfl fun hS => qJ <| wp_ret <| zE (zE ?_)
   exact zX (rs := [4]) hS rfl rfl (hret (0 : Int) _ (zn hM) (hS.st.pick [] (by kernel_rfl)))
  ·refine wp_skip ?_
   refine qf <| qr <| sA hS rfl fun hS => qJ <| wp_ret <| zE ?_
   exact zX (rs := [4]) hS rfl rfl (hret (-1 : Int) _ (zn hM) (hS.st.pick [] (by kernel_rfl)))
 ·refine wp_skip ?_
  refine qf <| wp_seq <| qr <| sM hS rfl fun hS => qJ <| qI hS rfl hM (fun LK hM => ?_) (fun LK hM => ?_)
  ·refine wp_seq ?_
   refine zI <| sA hS rfl fun hS => qJ <| wp_ret <| zE ?_
   exact zX (rs := [4]) hS rfl rfl (hret (1 : Int) _ (zn hM) (hS.st.pick [] (by kernel_rfl)))
  ·refine wp_skip ?_
   refine qf <| wp_seq <| qr <| sM hS rfl fun hS => sM hS rfl fun hS => sB hS rfl fun hS => qJ <| qI hS rfl hM (fun LL hM => ?_) (fun LL hM => ?_)
   ·refine wp_seq ?_
    refine zI <| sA hS rfl fun hS => qJ <| wp_ret <| zE ?_
    exact zX (rs := [4]) hS rfl rfl (hret (-1 : Int) _ (zn hM) (hS.st.pick [] (by kernel_rfl)))
   ·refine wp_skip ?_
    refine qf <| wp_seq <| qr <| sM hS rfl fun hS => sM hS rfl fun hS => sB hS rfl fun hS => qJ <| qI hS rfl hM (fun LM hM => ?_) (fun LM hM => ?_)
    ·refine wp_seq ?_
     refine zI <| sA hS rfl fun hS => qJ <| wp_ret <| zE ?_
     exact zX (rs := [4]) hS rfl rfl (hret (1 : Int) _ (zn hM) (hS.st.pick [] (by kernel_rfl)))
    ·refine wp_skip ?_
     refine qf <| qr <| sA hS rfl fun hS => qJ <| wp_ret ?_
     exact zX (rs := [4]) hS rfl rfl (hret (0 : Int) _ (zn hM) (hS.st.pick [] (by kernel_rfl)))
theorem jn {H : xT} {F : List qp} {w : World} {R : Ending → World → Prop} {kr : Int → Prop} {kp : Value → Prop} (hG : Gl H) (K : Nat) (LF : qb) (LG : qb) (LH : Option Addr) (LI : Nat) (LJ : Option Addr) (LK : Nat) (LR : jQ H [] F (ci .i64) LH LF.symbols_) (LS : LF.symbols_.length ≤ LI) (LT : jQ H [] F (ci .i64) LJ LG.symbols_) (LU : LG.symbols_.length ≤ LK)
    (hS : St w H [] F) (hm : (yk.m K LF LG).wp kr kp)
    (hret : ∀ (LL : Int) (w : World), kr LL → St w H [] F → R (.returned (.int .i64 LL)) w) :
    Calls Tryd.prog 57 ⟨[.agg ⟨[.int .i64 LF.often_, .slice LH LF.symbols_.length LI]⟩, .agg ⟨[.int .i64 LG.often_, .slice LJ LG.symbols_.length LK]⟩]⟩ w R := by
 refine enter Tryd.func57 rfl Tryd.ntmps57 rfl hS fun a w hS => ?_
 have hM := hm; clear hm
 rw [yk.m] at hM
 refine qr <| bx ([.int .i64 LF.often_, .slice LH LF.symbols_.length LI]) hS rfl rfl rfl fun w LV LO LM hS => bx ([.int .i64 LG.often_, .slice LJ LG.symbols_.length LK]) hS rfl rfl rfl fun w LW LP LN hS => sA hS rfl fun hS => qJ <| qr <| sO hS (xz rfl Tryd.runUnderlying112 rfl Tryd.sizeOf3 rfl) rfl fun hS => sO hS (ye 1 rfl LM rfl rfl Tryd.isAgg3) rfl fun hS => sO hS (xz rfl Tryd.runUnderlying112 rfl Tryd.sizeOf3 rfl) rfl fun hS => sO hS (ye 0 rfl LN rfl rfl Tryd.isAgg3) rfl fun hS => qN hS rfl Tryd.call58 (vO hG K LF.often_ LG.often_ (hS.st.part 0 [0, 1] (by kernel_rfl)) (qv hM) (fun LQ w hM  hst => qG hS.ev hst.appF rfl fun hS => ?_))
 replace hS : Ss _ _ _ H [LP, LO] F _ _ := hS
 refine sA hS rfl fun hS => qJ <| wp_ret ?_
 exact zX (rs := [4]) hS rfl rfl (hret LQ _ (zn hM) (hS.st.pick [] (by kernel_rfl)))
theorem xM {H : xT} {F : List qp} {w : World} {R : Ending → World → Prop} {kr : (List qb) → Prop} {kp : Value → Prop} (hG : Gl H) (K : Nat) (LT : List qb) (LK : Int) (LM : Int) (LO : qp) (LH : Option Addr) (LJ : Nat) (LQ : List (zq 2)) (Mh : qp) (Mw : zr (qg LO) LT LQ) (Mx : xb 112 (zq.v (sz := 2)) 2 LH LQ LJ Mh)
    (hS : St w H [LO, Mh] F) (hm : (qd.m K LT LK LM).wp kr kp)
    (hret : ∀ (L6 : List (zq 2)) (L1 : (List qb)) (Mv : qp) (w : World), kr L1 → (xb 112 (zq.v (sz := 2)) 2 LH L6 LJ Mv) → (zr (qg LO) L1 L6) → (L6.length = LQ.length) → St w H [LO, Mv] F → R (.returned (.tuple ⟨[]⟩)) w) :
    Calls Tryd.prog 99 ⟨[.slice LH LQ.length LJ, .int .i64 LK, .int .i64 LM, yA 57 [] []]⟩ w R := by
 refine enter Tryd.func99 rfl Tryd.ntmps99 rfl hS fun a w hS => ?_
 have hM := hm; clear hm
 rw [qd.m] at hM
 have MY : ∀ q ∈ LO, q ∈ LO := fun _ h => h
 have My : LQ.length = LQ.length := rfl
 refine qr <| sM hS rfl fun hS => sB hS rfl fun hS => zF (v := Value.int .i64) (x0 := (qh (LK + (1 : Int)))) hS (xB rfl) rfl fun MU a w hz hS => ?_
 have hM := qE hz hM; clear hz
 refine qJ <| xG <| zt (fun L3 a w => ∃ (LS : List (zq 2)) (LR : (List qb)) (L4 : qp) (LP : Int), Ss 53 [] [(0, .slice LH LS.length LJ), (1, .int .i64 LK), (2, .int .i64 LM), (3, yA 57 [] []), (8, .int .i64 LP)] H [LO, L4] F a w ∧ (xb 112 (zq.v (sz := 2)) 2 LH LS LJ L4) ∧ (zr (qg LO) LR LS) ∧ (LS.length = LQ.length) ∧ (qd.l1 K LK LM L3 LR LP).wp kr kp) K ?_ ?_ ?_
 ·exact ⟨LQ, LT, Mh, MU, hS.to [0, 1] (by kernel_rfl) ⟨rfl, rfl, rfl, rfl, rfl, trivial⟩, Mx, Mw, My, hM⟩
 ·intro a w hI; obtain ⟨_, _, _, _, _, _, _, _, hM⟩ := hI; exact zm hM
 ·intro L3 a w hI MZ Mz
  obtain ⟨LS, LR, L4, LP, hS, Mi, Mj, Mk, hM⟩ := hI
  rw [qd.l1] at hM
  refine wp_seq <| qr <| sM hS rfl fun hS => sM hS rfl fun hS => sB hS rfl fun hS => qJ <| qI hS rfl hM (fun MA hM => ?_) (fun MA hM => ?_)
  ·refine wp_skip ?_
   refine qf <| wp_seq <| xG <| qr <| sM hS rfl fun hS => sA hS rfl fun hS => qJ <| xG <| zt (fun Ml a w => ∃ (LI : List (zq 2)) (LF : (List qb)) (LZ : qp) (LG : Int), Ss 53 [] [(0, .slice LH LI.length LJ), (1, .int .i64 LK), (2, .int .i64 LM), (3, yA 57 [] []), (8, .int .i64 LP), (9, .int .i64 LG)] H [LO, LZ] F a w ∧ (xb 112 (zq.v (sz := 2)) 2 LH LI LJ LZ) ∧ (zr (qg LO) LF LI) ∧ (LI.length = LQ.length) ∧ (qd.l2 K (qd.l1 K LK LM L3) LK LP Ml LF LG).wp kr kp) K ?_ ?_ ?_
   ·exact ⟨LS, LR, L4, LP, hS.to [0, 1] (by kernel_rfl) ⟨rfl, rfl, rfl, rfl, rfl, rfl, trivial⟩, Mi, Mj, Mk, hM⟩
   ·intro a w hI; obtain ⟨_, _, _, _, _, _, _, _, hM⟩ := hI; exact zm hM
   ·intro Ml a w hI M0 MB
    obtain ⟨LI, LF, LZ, LG, hS, LN, LL, Mm, hM⟩ := hI
    rw [qd.l2] at hM
    refine wp_seq <| zc (fun a w => ∃ (Mn : Bool), Ss 53 [] [(0, .slice LH LI.length LJ), (1, .int .i64 LK), (2, .int .i64 LM), (3, yA 57 [] []), (8, .int .i64 LP), (9, .int .i64 LG), (34, .bool Mn)] H [LO, LZ] F a w ∧ (qd.j3 K (qd.l1 K LK LM L3) (qd.l2 K (qd.l1 K LK LM L3) LK LP Ml) LP LF LG Mn).wp kr kp) (fun M3 Mp => ?_) ?_
    ·refine Dz (b := (decide (LG > LK))) hM (fun L7 hM => ?_) (fun L7 hM => ?_)
     ·obtain ⟨L8, hM⟩ := qH hM
      obtain ⟨Md, Me, MC, MD, ME⟩ := LL.get L8
      obtain ⟨L9, hM⟩ := qH hM
      obtain ⟨Mf, Mg, MF, MG, MH⟩ := LL.get L9
      refine q8 (vals := [some (.int .i64 LG), some (.int .i64 LK), some (.bool true), some (.bool true), some (yA 57 [] []), some (.slice LH LI.length LJ), some (.int .i64 LG), some (z8 LH (Int.toNat LG * 2)), some (.agg ⟨[.int .i64 ((rd LF LG).often_), .slice Md ((rd LF LG).symbols_).length Me]⟩), some (.slice LH LI.length LJ), some (.int .i64 LG), some (.int .i64 (qh (LG - (1 : Int)))), some (z8 LH (Int.toNat (qh (LG - (1 : Int))) * 2)), some (.agg ⟨[.int .i64 ((rd LF (qh (LG - (1 : Int)))).often_), .slice Mf ((rd LF (qh (LG - (1 : Int)))).symbols_).length Mg]⟩), none, none, none]) hS xw rfl ?_
      intro l w ho hcl hA hst
      refine yV hA hst ho hcl xk xx 14 [0, 1, 2, 3, 4, 5, 6, 7, 8, 9, 10, 11, 12, 13] rfl rfl rfl rfl rfl (by exact ⟨nM rfl, nM rfl, nQ rfl (by exact qV (jA rfl rfl rfl) (congrArg Value.bool L7)), nM rfl, nW rfl rfl rfl rfl rfl rfl rfl rfl (by exact qV (mv rfl) rfl), nW rfl rfl rfl rfl rfl rfl rfl rfl (by exact qV (mv rfl) rfl), nW rfl rfl rfl rfl rfl rfl rfl rfl (by exact qV (mv rfl) rfl), nW rfl rfl rfl rfl rfl rfl rfl rfl (by exact qV (xZ rfl rfl Tryd.runUnderlying110 Tryd.sizeOf112 (LN.rd (i := 1) rfl) zq.len rfl (LL.inb L8)) rfl), nW rfl rfl rfl rfl rfl rfl rfl rfl (by exact qV (qV (y4 rfl (LN.rd (i := 1) rfl) zq.len (LL.inb L8) Tryd.isAgg112 Tryd.sizeOf112 rfl) (congrArg (fun l => Value.agg ⟨l⟩) MC)) rfl), nW rfl rfl rfl rfl rfl rfl rfl rfl (by exact qV (mv rfl) rfl), nW rfl rfl rfl rfl rfl rfl rfl rfl (by exact qV (mv rfl) rfl), nW rfl rfl rfl rfl rfl rfl rfl rfl (by exact qV (jA rfl rfl rfl) rfl), nW rfl rfl rfl rfl rfl rfl rfl rfl (by exact qV (xZ rfl rfl Tryd.runUnderlying110 Tryd.sizeOf112 (LN.rd (i := 1) rfl) zq.len rfl (LL.inb L9)) rfl), nW rfl rfl rfl rfl rfl rfl rfl rfl (by exact qV (qV (y4 rfl (LN.rd (i := 1) rfl) zq.len (LL.inb L9) Tryd.isAgg112 Tryd.sizeOf112 rfl) (congrArg (fun l => Value.agg ⟨l⟩) MF)) rfl), trivial⟩) fun D l a w ho hcl hav hpre hm hE hk hA hst => ?_
      have hS := (Ss.mk hE hst).env2 (e' := [(21, .bool true), (22, yA 57 [] []), (26, .agg ⟨[.int .i64 ((rd LF LG).often_), .slice Md ((rd LF LG).symbols_).length Me]⟩), (31, .agg ⟨[.int .i64 ((rd LF (qh (LG - (1 : Int)))).often_), .slice Mf ((rd LF (qh (LG - (1 : Int)))).symbols_).length Mg]⟩)]) ⟨rfl, rfl, rfl, rfl, trivial⟩
      refine qR rfl <| Zm hS rfl rfl rfl rfl <| vw hS rfl rfl Tryd.call57 (jn hG K (qb.mk ((rd LF LG).often_) ((rd LF LG).symbols_)) (qb.mk ((rd LF (qh (LG - (1 : Int)))).often_) ((rd LF (qh (LG - (1 : Int)))).symbols_)) Md Me Mf Mg (MD.rdF (i := 0) rfl) ME (MG.rdF (i := 0) rfl) MH (hS.st.part 0 [0, 1] (by kernel_rfl)) (qv hM) (fun L5 w hM  hst => qG hS.ev hst.appF rfl fun hS => ?_))
      replace hS : Ss _ _ _ H [LO, LZ] F _ _ := hS
      refine qJ ?_
      replace hst := hS.st
      obtain ⟨hcl, hmust, hav2, hA⟩ := dn (vals' := [some (.int .i64 LG), some (.int .i64 LK), some (.bool true), some (.bool true), some (yA 57 [] []), some (.slice LH LI.length LJ), some (.int .i64 LG), some (z8 LH (Int.toNat LG * 2)), some (.agg ⟨[.int .i64 ((rd LF LG).often_), .slice Md ((rd LF LG).symbols_).length Me]⟩), some (.slice LH LI.length LJ), some (.int .i64 LG), some (.int .i64 (qh (LG - (1 : Int)))), some (z8 LH (Int.toNat (qh (LG - (1 : Int))) * 2)), some (.agg ⟨[.int .i64 ((rd LF (qh (LG - (1 : Int)))).often_), .slice Mf ((rd LF (qh (LG - (1 : Int)))).symbols_).length Mg]⟩), some (.int .i64 L5), some (.bool (decide (L5 < (0 : Int)))), some (.bool (decide (L5 < (0 : Int))))]) 14 [(3, 14), (4, 14), (8, 14), (13, 14), (2, 3), (7, 8), (12, 13), (0, 2), (1, 2), (5, 7), (6, 7), (9, 12), (11, 12), (10, 11)] hA hcl hav hm hpre hk rfl rfl rfl rfl rfl rfl rfl
      clear hm hav
      refine x6 hA hst ho hcl hmust [15, 16] rfl rfl rfl (by exact ⟨nW rfl rfl rfl rfl rfl rfl rfl rfl (by exact qV (jA rfl rfl rfl) rfl), nQ rfl (by exact qV (pk rfl rfl rfl) rfl), trivial⟩) fun a w hS => ?_
      replace hS := hS.env2 (e' := [(0, .slice LH LI.length LJ), (1, .int .i64 LK), (2, .int .i64 LM), (3, yA 57 [] []), (8, .int .i64 LP), (9, .int .i64 LG), (34, .bool (decide (L5 < (0 : Int))))]) ⟨rfl, rfl, rfl, rfl, rfl, rfl, rfl, trivial⟩
      refine qf ?_
      exact Mp _ _ ⟨(decide (L5 < (0 : Int))), hS.to [0, 1] (by kernel_rfl) ⟨rfl, rfl, rfl, rfl, rfl, rfl, rfl, trivial⟩, hM⟩
     ·refine q8 (vals := [some (.int .i64 LG), some (.int .i64 LK), some (.bool false), some (.bool false), some (undef), some (undef), some (undef), some (undef), some (undef), some (undef), some (undef), some (undef), some (undef), some (undef), some (undef), some (undef), some (.bool false)]) hS xw rfl ?_
      intro l w ho hcl hA hst
      refine x6 hA hst ho hcl xx [0, 1, 2, 3, 4, 5, 6, 7, 8, 9, 10, 11, 12, 13, 14, 15, 16] rfl rfl rfl (by exact ⟨nM rfl, nM rfl, nQ rfl (by exact qV (jA rfl rfl rfl) (congrArg Value.bool L7)), nM rfl, nS rfl rfl rfl rfl rfl rfl rfl rfl rfl, nS rfl rfl rfl rfl rfl rfl rfl rfl rfl, nS rfl rfl rfl rfl rfl rfl rfl rfl rfl, nS rfl rfl rfl rfl rfl rfl rfl rfl rfl, nS rfl rfl rfl rfl rfl rfl rfl rfl rfl, nS rfl rfl rfl rfl rfl rfl rfl rfl rfl, nS rfl rfl rfl rfl rfl rfl rfl rfl rfl, nS rfl rfl rfl rfl rfl rfl rfl rfl rfl, nS rfl rfl rfl rfl rfl rfl rfl rfl rfl, nS rfl rfl rfl rfl rfl rfl rfl rfl rfl, nS rfl rfl rfl rfl rfl rfl rfl rfl rfl, nS rfl rfl rfl rfl rfl rfl rfl rfl rfl, nQ rfl (by exact qV (pk rfl rfl rfl) rfl), trivial⟩) fun a w hS => ?_
      replace hS := hS.env2 (e' := [(0, .slice LH LI.length LJ), (1, .int .i64 LK), (2, .int .i64 LM), (3, yA 57 [] []), (8, .int .i64 LP), (9, .int .i64 LG), (34, .bool false)]) ⟨rfl, rfl, rfl, rfl, rfl, rfl, rfl, trivial⟩
      refine qf ?_
      exact Mp _ _ ⟨false, hS.to [0, 1] (by kernel_rfl) ⟨rfl, rfl, rfl, rfl, rfl, rfl, rfl, trivial⟩, hM⟩
    ·intro a w hI
     obtain ⟨Mn, hS, hM⟩ := hI
     rw [qd.j3] at hM
     refine qI hS rfl hM (fun MI hM => ?_) (fun MI hM => ?_)
     ·refine wp_skip ?_
      refine qf <| wp_seq <| xG ?_
      obtain ⟨Ma, hM⟩ := qH hM
      obtain ⟨LU, LV, MJ, MK, ML⟩ := LL.get Ma
      obtain ⟨LW, hM⟩ := qH hM
      obtain ⟨LX, LY, MM, MN, MO⟩ := LL.get LW
      refine q8 (vals := [some (.slice LH LI.length LJ), some (.int .i64 LG), some (.slice LH LI.length LJ), some (.int .i64 LG), some (.int .i64 (qh (LG - (1 : Int)))), some (.slice LH LI.length LJ), some (.int .i64 LG), some (.int .i64 (qh (LG - (1 : Int)))), some (z8 LH (Int.toNat (qh (LG - (1 : Int))) * 2)), some (.agg ⟨[.int .i64 ((rd LF (qh (LG - (1 : Int)))).often_), .slice LU ((rd LF (qh (LG - (1 : Int)))).symbols_).length LV]⟩), some (.slice LH LI.length LJ), some (.int .i64 LG), some (z8 LH (Int.toNat LG * 2)), some (.agg ⟨[.int .i64 ((rd LF LG).often_), .slice LX ((rd LF LG).symbols_).length LY]⟩), some (z8 LH (Int.toNat LG * 2)), none, none, none]) hS xw rfl ?_
      intro l w ho hcl hA hst
      refine yV hA hst ho hcl xk xx 15 [0, 1, 2, 3, 4, 5, 6, 7, 8, 9, 10, 11, 12, 13, 14] rfl rfl rfl rfl rfl (by exact ⟨nM rfl, nM rfl, nM rfl, nM rfl, nB rfl, nM rfl, nM rfl, nB rfl, nQ rfl (by exact qV (xZ rfl rfl Tryd.runUnderlying110 Tryd.sizeOf112 (LN.rd (i := 1) rfl) zq.len rfl (LL.inb Ma)) rfl), nQ rfl (by exact qV (qV (y4 rfl (LN.rd (i := 1) rfl) zq.len (LL.inb Ma) Tryd.isAgg112 Tryd.sizeOf112 rfl) (congrArg (fun l => Value.agg ⟨l⟩) MJ)) rfl), nM rfl, nM rfl, nQ rfl (by exact qV (xZ rfl rfl Tryd.runUnderlying110 Tryd.sizeOf112 (LN.rd (i := 1) rfl) zq.len rfl (LL.inb LW)) rfl), nQ rfl (by exact qV (qV (y4 rfl (LN.rd (i := 1) rfl) zq.len (LL.inb LW) Tryd.isAgg112 Tryd.sizeOf112 rfl) (congrArg (fun l => Value.agg ⟨l⟩) MM)) rfl), nQ rfl (by exact qV (xZ rfl rfl Tryd.runUnderlying110 Tryd.sizeOf112 (LN.rd (i := 1) rfl) zq.len rfl (LL.inb LW)) rfl), trivial⟩) fun D l a w ho hcl hav hpre hm hE hk hA hst => ?_
      have hS := (Ss.mk hE hst).env2 (e' := [(46, .agg ⟨[.int .i64 ((rd LF (qh (LG - (1 : Int)))).often_), .slice LU ((rd LF (qh (LG - (1 : Int)))).symbols_).length LV]⟩), (51, z8 LH (Int.toNat LG * 2))]) ⟨rfl, rfl, trivial⟩
      refine qR rfl <| QJ (i := LG) (sz := 2) 1 (⟨[.int .i64 ((rd LF (qh (LG - (1 : Int)))).often_), .slice LU ((rd LF (qh (LG - (1 : Int)))).symbols_).length LV], by simp, by simp [Value.oneCell']⟩ : zq 2) hS rfl rfl LN rfl Tryd.sizeOf112 rfl (LL.inb LW) fun Mq w M4 hz Mr hS => ?_
      obtain ⟨MP, hzm⟩ := js (LF.set (Int.toNat LG) (qb.mk ((rd LF (qh (LG - (1 : Int)))).often_) ((rd LF (qh (LG - (1 : Int)))).symbols_)))
      replace hM := qE hzm hM
      have L0 := zr.set (x := (qb.mk ((rd LF (qh (LG - (1 : Int)))).often_) ((rd LF (qh (LG - (1 : Int)))).symbols_))) (r := (⟨[.int .i64 ((rd LF (qh (LG - (1 : Int)))).often_), .slice LU ((rd LF (qh (LG - (1 : Int)))).symbols_).length LV], by simp, by simp [Value.oneCell']⟩ : zq 2)) (Int.toNat LG) LL (show qg LO _ _ from ⟨LU, LV, rfl, MK, ML⟩)
      have Mb : Mq.length = LI.length := by rw [hz]; exact List.length_set ..
      rw [← hz, ← hzm] at L0; clear hz hzm
      have MQ := Eq.trans Mb Mm
      refine qJ ?_
      replace hst := hS.st
      obtain ⟨Ms, hM⟩ := qH hM
      obtain ⟨hcl, hmust, hav2, hA⟩ := Zd (vals' := [some (.slice LH LI.length LJ), some (.int .i64 LG), some (.slice LH LI.length LJ), some (.int .i64 LG), some (.int .i64 (qh (LG - (1 : Int)))), some (.slice LH LI.length LJ), some (.int .i64 LG), some (.int .i64 (qh (LG - (1 : Int)))), some (z8 LH (Int.toNat (qh (LG - (1 : Int))) * 2)), some (.agg ⟨[.int .i64 ((rd LF (qh (LG - (1 : Int)))).often_), .slice LU ((rd LF (qh (LG - (1 : Int)))).symbols_).length LV]⟩), some (.slice LH LI.length LJ), some (.int .i64 LG), some (z8 LH (Int.toNat LG * 2)), some (.agg ⟨[.int .i64 ((rd LF LG).often_), .slice LX ((rd LF LG).symbols_).length LY]⟩), some (z8 LH (Int.toNat LG * 2)), some undef, some (z8 LH (Int.toNat (qh (LG - (1 : Int))) * 2)), none]) 15 [(0, 15), (1, 15), (5, 15), (6, 15), (7, 15), (8, 15), (9, 15), (13, 15), (14, 15), (12, 13), (10, 12), (11, 12)] hA hcl hav hm hpre rfl rfl rfl rfl rfl
      clear hm hav
      refine yV hA hst ho hcl hav2 hmust 17 [2, 3, 4, 16] rfl rfl rfl rfl rfl (by exact ⟨nM rfl, nM rfl, nB rfl, nQ rfl (by exact qV (xZ (Jc Mb rfl) rfl Tryd.runUnderlying110 Tryd.sizeOf112 (Mr.rd (i := 1) rfl) zq.len rfl (L0.inb Ms)) rfl), trivial⟩) fun D l a w ho hcl hav hpre hm hE hk hA hst => ?_
      have hS := (Ss.mk hE hst).env2 (e' := [(50, .agg ⟨[.int .i64 ((rd LF LG).often_), .slice LX ((rd LF LG).symbols_).length LY]⟩), (52, z8 LH (Int.toNat (qh (LG - (1 : Int))) * 2))]) ⟨rfl, rfl, trivial⟩
      refine qR rfl <| QJ (i := (qh (LG - (1 : Int)))) (sz := 2) 1 (⟨[.int .i64 ((rd LF LG).often_), .slice LX ((rd LF LG).symbols_).length LY], by simp, by simp [Value.oneCell']⟩ : zq 2) hS rfl rfl Mr rfl Tryd.sizeOf112 rfl (L0.inb Ms) fun Mc w MV hz MR hS => ?_
      obtain ⟨MS, hzm⟩ := js (MP.set (Int.toNat (qh (LG - (1 : Int)))) (qb.mk ((rd LF LG).often_) ((rd LF LG).symbols_)))
      replace hM := qE hzm hM
      have Mt := zr.set (x := (qb.mk ((rd LF LG).often_) ((rd LF LG).symbols_))) (r := (⟨[.int .i64 ((rd LF LG).often_), .slice LX ((rd LF LG).symbols_).length LY], by simp, by simp [Value.oneCell']⟩ : zq 2)) (Int.toNat (qh (LG - (1 : Int)))) L0 (show qg LO _ _ from ⟨LX, LY, rfl, MN, MO⟩)
      have Mu : Mc.length = Mq.length := by rw [hz]; exact List.length_set ..
      rw [← hz, ← hzm] at Mt; clear hz hzm
      have MT := Eq.trans Mu MQ
      refine qJ ?_
      replace hst := hS.st
      obtain ⟨hcl, hmust, hav2, hA⟩ := Zd (vals' := [some (.slice LH LI.length LJ), some (.int .i64 LG), some (.slice LH LI.length LJ), some (.int .i64 LG), some (.int .i64 (qh (LG - (1 : Int)))), some (.slice LH LI.length LJ), some (.int .i64 LG), some (.int .i64 (qh (LG - (1 : Int)))), some (z8 LH (Int.toNat (qh (LG - (1 : Int))) * 2)), some (.agg ⟨[.int .i64 ((rd LF (qh (LG - (1 : Int)))).often_), .slice LU ((rd LF (qh (LG - (1 : Int)))).symbols_).length LV]⟩), some (.slice LH LI.length LJ), some (.int .i64 LG), some (z8 LH (Int.toNat LG * 2)), some (.agg ⟨[.int .i64 ((rd LF LG).often_), .slice LX ((rd LF LG).symbols_).length LY]⟩), some (z8 LH (Int.toNat LG * 2)), some undef, some (z8 LH (Int.toNat (qh (LG - (1 : Int))) * 2)), some undef]) 17 [(0, 17), (1, 17), (2, 17), (3, 17), (4, 17), (5, 17), (6, 17), (7, 17), (8, 17), (9, 17), (10, 17), (11, 17), (12, 17), (13, 17), (14, 17), (15, 17), (16, 17)] hA hcl hav hm hpre rfl rfl rfl rfl rfl
      clear hm hav
      refine x6 hA hst ho hcl hmust [] rfl rfl rfl trivial fun a w hS => ?_
      replace hS := hS.env2 (e' := [(0, .slice LH Mc.length LJ), (1, .int .i64 LK), (2, .int .i64 LM), (3, yA 57 [] []), (8, .int .i64 LP), (9, .int .i64 LG)]) ⟨(YY (u := .slice LH LI.length LJ) rfl (by rw [Mu, Mb])), rfl, rfl, rfl, rfl, rfl, trivial⟩
      refine zw (qf ?_)
      refine zI <| sM hS rfl fun hS => sB hS rfl fun hS => zF (v := Value.int .i64) (x0 := (qh (LG - (1 : Int)))) hS (xB rfl) rfl fun MW a w hz hS => ?_
      have hM := qE hz hM; clear hz
      refine zg <| qf ?_
      exact MB _ _ ⟨Mc, MS, MV, MW, hS.to [0, 1] (by kernel_rfl) ⟨rfl, rfl, rfl, rfl, rfl, rfl, trivial⟩, MR, Mt, MT, hM⟩
     ·refine wp_exit ?_
      refine qC (qC (q9 (zw (qf ?_))))
      refine zI <| sM hS rfl fun hS => sB hS rfl fun hS => zF (v := Value.int .i64) (x0 := (qh (LP + (1 : Int)))) hS (xB rfl) rfl fun MX a w hz hS => ?_
      have hM := qE hz hM; clear hz
      refine zg <| qf ?_
      exact Mz _ _ ⟨LI, LF, LZ, MX, hS.to [0, 1] (by kernel_rfl) ⟨rfl, rfl, rfl, rfl, rfl, trivial⟩, LN, LL, Mm, hM⟩
  ·refine wp_exit ?_
   refine qC (qC (q9 ?_))
   exact yT (rs := []) hS rfl rfl (hret LS LR L4 _ (zn hM) Mi Mj Mk (hS.st.pick [0, 1] (by kernel_rfl)))
theorem xo {H : xT} {F : List qp} {w : World} {R : Ending → World → Prop} {kr : (List qb) → Prop} {kp : Value → Prop} (hG : Gl H) (K : Nat) (LQ : List qb) (LH : Int) (LI : Int) (LR : Int) (LO : qp) (LJ : Option Addr) (LL : Nat) (LN : List (zq 2)) (L5 : qp) (Me : zr (qg LO) LQ LN) (Mf : xb 112 (zq.v (sz := 2)) 2 LJ LN LL L5)
    (hS : St w H [LO, L5] F) (hm : (qM.m K LQ LH LI LR).wp kr kp)
    (hret : ∀ (LZ : List (zq 2)) (LY : (List qb)) (Mc : qp) (w : World), kr LY → (xb 112 (zq.v (sz := 2)) 2 LJ LZ LL Mc) → (zr (qg LO) LY LZ) → (LZ.length = LN.length) → St w H [LO, Mc] F → R (.returned (.tuple ⟨[]⟩)) w) :
    Calls Tryd.prog 109 ⟨[.slice LJ LN.length LL, .int .i64 LH, .int .i64 LI, .int .i64 LR, yA 57 [] []]⟩ w R := by
 refine enter Tryd.func109 rfl Tryd.ntmps109 rfl hS fun a w hS => ?_
 have hM := hm; clear hm
 rw [qM.m] at hM
 have Mx : ∀ q ∈ LO, q ∈ LO := fun _ h => h
 have Mg : LN.length = LN.length := rfl
 refine qr <| sA hS rfl fun hS => qJ <| xG <| zt (fun Md a w => ∃ (LK : List (zq 2)) (LG : (List qb)) (L4 : qp) (LF : Int), Ss 38 [] [(0, .slice LJ LK.length LL), (1, .int .i64 LH), (2, .int .i64 LI), (3, .int .i64 LR), (10, .int .i64 LF)] H [LO, L4] F a w ∧ (xb 112 (zq.v (sz := 2)) 2 LJ LK LL L4) ∧ (zr (qg LO) LG LK) ∧ (LK.length = LN.length) ∧ (qM.l1 K LH LI LR Md LG LF).wp kr kp) K ?_ ?_ ?_
 ·exact ⟨LN, LQ, L5, (0 : Int), hS.to [0, 1] (by kernel_rfl) ⟨rfl, rfl, rfl, rfl, rfl, trivial⟩, Mf, Me, Mg, hM⟩
 ·intro a w hI; obtain ⟨_, _, _, _, _, _, _, _, hM⟩ := hI; exact zm hM
 ·intro Md a w hI My Mh
  obtain ⟨LK, LG, L4, LF, hS, LP, LM, L6, hM⟩ := hI
  rw [qM.l1] at hM
  refine wp_seq <| qr <| sM hS rfl fun hS => sM hS rfl fun hS => sB hS rfl fun hS => qJ <| qI hS rfl hM (fun Mi hM => ?_) (fun Mi hM => ?_)
  ·refine wp_skip ?_
   refine qf <| wp_seq <| xG ?_
   obtain ⟨L0, hM⟩ := qH hM
   obtain ⟨LS, LT, Mj, Mk, Ml⟩ := LM.get L0
   obtain ⟨LU, hM⟩ := qH hM
   obtain ⟨LV, LW, Mm, Mn, Mp⟩ := LM.get LU
   refine q8 (vals := [some (.slice LJ LK.length LL), some (.int .i64 LH), some (.int .i64 LF), some (.int .i64 (qh (LH + LF))), some (.slice LJ LK.length LL), some (.int .i64 LI), some (.int .i64 LF), some (.int .i64 (qh (LI + LF))), some (.slice LJ LK.length LL), some (.int .i64 LI), some (.int .i64 LF), some (.int .i64 (qh (LI + LF))), some (z8 LJ (Int.toNat (qh (LI + LF)) * 2)), some (.agg ⟨[.int .i64 ((rd LG (qh (LI + LF))).often_), .slice LS ((rd LG (qh (LI + LF))).symbols_).length LT]⟩), some (.slice LJ LK.length LL), some (.int .i64 LH), some (.int .i64 LF), some (.int .i64 (qh (LH + LF))), some (z8 LJ (Int.toNat (qh (LH + LF)) * 2)), some (.agg ⟨[.int .i64 ((rd LG (qh (LH + LF))).often_), .slice LV ((rd LG (qh (LH + LF))).symbols_).length LW]⟩), some (z8 LJ (Int.toNat (qh (LH + LF)) * 2)), none, none, none]) hS xw rfl ?_
   intro l w ho hcl hA hst
   refine yV hA hst ho hcl xk xx 21 [0, 1, 2, 3, 4, 5, 6, 7, 8, 9, 10, 11, 12, 13, 14, 15, 16, 17, 18, 19, 20] rfl rfl rfl rfl rfl (by exact ⟨nM rfl, nM rfl, nM rfl, nB rfl, nM rfl, nM rfl, nM rfl, nB rfl, nM rfl, nM rfl, nM rfl, nB rfl, nQ rfl (by exact qV (xZ rfl rfl Tryd.runUnderlying110 Tryd.sizeOf112 (LP.rd (i := 1) rfl) zq.len rfl (LM.inb L0)) rfl), nQ rfl (by exact qV (qV (y4 rfl (LP.rd (i := 1) rfl) zq.len (LM.inb L0) Tryd.isAgg112 Tryd.sizeOf112 rfl) (congrArg (fun l => Value.agg ⟨l⟩) Mj)) rfl), nM rfl, nM rfl, nM rfl, nB rfl, nQ rfl (by exact qV (xZ rfl rfl Tryd.runUnderlying110 Tryd.sizeOf112 (LP.rd (i := 1) rfl) zq.len rfl (LM.inb LU)) rfl), nQ rfl (by exact qV (qV (y4 rfl (LP.rd (i := 1) rfl) zq.len (LM.inb LU) Tryd.isAgg112 Tryd.sizeOf112 rfl) (congrArg (fun l => Value.agg ⟨l⟩) Mm)) rfl), nQ rfl (by exact qV (xZ rfl rfl Tryd.runUnderlying110 Tryd.sizeOf112 (LP.rd (i := 1) rfl) zq.len rfl (LM.inb LU)) rfl), trivial⟩) fun D l a w ho hcl hav hpre hm hE hk hA hst => ?_
   have hS := (Ss.mk hE hst).env2 (e' := [(29, .agg ⟨[.int .i64 ((rd LG (qh (LI + LF))).often_), .slice LS ((rd LG (qh (LI + LF))).symbols_).length LT]⟩), (36, z8 LJ (Int.toNat (qh (LH + LF)) * 2))]) ⟨rfl, rfl, trivial⟩
   refine qR rfl <| QJ (i := (qh (LH + LF))) (sz := 2) 1 (⟨[.int .i64 ((rd LG (qh (LI + LF))).often_), .slice LS ((rd LG (qh (LI + LF))).symbols_).length LT], by simp, by simp [Value.oneCell']⟩ : zq 2) hS rfl rfl LP rfl Tryd.sizeOf112 rfl (LM.inb LU) fun L7 w Mz hz L8 hS => ?_
   obtain ⟨Mq, hzm⟩ := js (LG.set (Int.toNat (qh (LH + LF))) (qb.mk ((rd LG (qh (LI + LF))).often_) ((rd LG (qh (LI + LF))).symbols_)))
   replace hM := qE hzm hM
   have LX := zr.set (x := (qb.mk ((rd LG (qh (LI + LF))).often_) ((rd LG (qh (LI + LF))).symbols_))) (r := (⟨[.int .i64 ((rd LG (qh (LI + LF))).often_), .slice LS ((rd LG (qh (LI + LF))).symbols_).length LT], by simp, by simp [Value.oneCell']⟩ : zq 2)) (Int.toNat (qh (LH + LF))) LM (show qg LO _ _ from ⟨LS, LT, rfl, Mk, Ml⟩)
   have L1 : L7.length = LK.length := by rw [hz]; exact List.length_set ..
   rw [← hz, ← hzm] at LX; clear hz hzm
   have Mr := Eq.trans L1 L6
   refine qJ ?_
   replace hst := hS.st
   obtain ⟨L9, hM⟩ := qH hM
   obtain ⟨hcl, hmust, hav2, hA⟩ := Zd (vals' := [some (.slice LJ LK.length LL), some (.int .i64 LH), some (.int .i64 LF), some (.int .i64 (qh (LH + LF))), some (.slice LJ LK.length LL), some (.int .i64 LI), some (.int .i64 LF), some (.int .i64 (qh (LI + LF))), some (.slice LJ LK.length LL), some (.int .i64 LI), some (.int .i64 LF), some (.int .i64 (qh (LI + LF))), some (z8 LJ (Int.toNat (qh (LI + LF)) * 2)), some (.agg ⟨[.int .i64 ((rd LG (qh (LI + LF))).often_), .slice LS ((rd LG (qh (LI + LF))).symbols_).length LT]⟩), some (.slice LJ LK.length LL), some (.int .i64 LH), some (.int .i64 LF), some (.int .i64 (qh (LH + LF))), some (z8 LJ (Int.toNat (qh (LH + LF)) * 2)), some (.agg ⟨[.int .i64 ((rd LG (qh (LH + LF))).often_), .slice LV ((rd LG (qh (LH + LF))).symbols_).length LW]⟩), some (z8 LJ (Int.toNat (qh (LH + LF)) * 2)), some undef, some (z8 LJ (Int.toNat (qh (LI + LF)) * 2)), none]) 21 [(0, 21), (1, 21), (2, 21), (3, 21), (8, 21), (9, 21), (10, 21), (11, 21), (12, 21), (13, 21), (19, 21), (20, 21), (18, 19), (14, 18), (17, 18), (15, 17), (16, 17)] hA hcl hav hm hpre rfl rfl rfl rfl rfl
   clear hm hav
   refine yV hA hst ho hcl hav2 hmust 23 [4, 5, 6, 7, 22] rfl rfl rfl rfl rfl (by exact ⟨nM rfl, nM rfl, nM rfl, nB rfl, nQ rfl (by exact qV (xZ (Jc L1 rfl) rfl Tryd.runUnderlying110 Tryd.sizeOf112 (L8.rd (i := 1) rfl) zq.len rfl (LX.inb L9)) rfl), trivial⟩) fun D l a w ho hcl hav hpre hm hE hk hA hst => ?_
   have hS := (Ss.mk hE hst).env2 (e' := [(35, .agg ⟨[.int .i64 ((rd LG (qh (LH + LF))).often_), .slice LV ((rd LG (qh (LH + LF))).symbols_).length LW]⟩), (37, z8 LJ (Int.toNat (qh (LI + LF)) * 2))]) ⟨rfl, rfl, trivial⟩
   refine qR rfl <| QJ (i := (qh (LI + LF))) (sz := 2) 1 (⟨[.int .i64 ((rd LG (qh (LH + LF))).often_), .slice LV ((rd LG (qh (LH + LF))).symbols_).length LW], by simp, by simp [Value.oneCell']⟩ : zq 2) hS rfl rfl L8 rfl Tryd.sizeOf112 rfl (LX.inb L9) fun L3 w Mv hz Ms hS => ?_
   obtain ⟨Mt, hzm⟩ := js (Mq.set (Int.toNat (qh (LI + LF))) (qb.mk ((rd LG (qh (LH + LF))).often_) ((rd LG (qh (LH + LF))).symbols_)))
   replace hM := qE hzm hM
   have Ma := zr.set (x := (qb.mk ((rd LG (qh (LH + LF))).often_) ((rd LG (qh (LH + LF))).symbols_))) (r := (⟨[.int .i64 ((rd LG (qh (LH + LF))).often_), .slice LV ((rd LG (qh (LH + LF))).symbols_).length LW], by simp, by simp [Value.oneCell']⟩ : zq 2)) (Int.toNat (qh (LI + LF))) LX (show qg LO _ _ from ⟨LV, LW, rfl, Mn, Mp⟩)
   have Mb : L3.length = L7.length := by rw [hz]; exact List.length_set ..
   rw [← hz, ← hzm] at Ma; clear hz hzm
   have Mu := Eq.trans Mb Mr
   refine qJ ?_
   replace hst := hS.st
   obtain ⟨hcl, hmust, hav2, hA⟩ := Zd (vals' := [some (.slice LJ LK.length LL), some (.int .i64 LH), some (.int .i64 LF), some (.int .i64 (qh (LH + LF))), some (.slice LJ LK.length LL), some (.int .i64 LI), some (.int .i64 LF), some (.int .i64 (qh (LI + LF))), some (.slice LJ LK.length LL), some (.int .i64 LI), some (.int .i64 LF), some (.int .i64 (qh (LI + LF))), some (z8 LJ (Int.toNat (qh (LI + LF)) * 2)), some (.agg ⟨[.int .i64 ((rd LG (qh (LI + LF))).often_), .slice LS ((rd LG (qh (LI + LF))).symbols_).length LT]⟩), some (.slice LJ LK.length LL), some (.int .i64 LH), some (.int .i64 LF), some (.int .i64 (qh (LH + LF))), some (z8 LJ (Int.toNat (qh (LH + LF)) * 2)), some (.agg ⟨[.int .i64 ((rd LG (qh (LH + LF))).often_), .slice LV ((rd LG (qh (LH + LF))).symbols_).length LW]⟩), some (z8 LJ (Int.toNat (qh (LH + LF)) * 2)), some undef, some (z8 LJ (Int.toNat (qh (LI + LF)) * 2)), some undef]) 23 [(0, 23), (1, 23), (2, 23), (3, 23), (4, 23), (5, 23), (6, 23), (7, 23), (8, 23), (9, 23), (10, 23), (11, 23), (12, 23), (13, 23), (14, 23), (15, 23), (16, 23), (17, 23), (18, 23), (19, 23), (20, 23), (21, 23), (22, 23)] hA hcl hav hm hpre rfl rfl rfl rfl rfl
   clear hm hav
   refine x6 hA hst ho hcl hmust [] rfl rfl rfl trivial fun a w hS => ?_
   replace hS := hS.env2 (e' := [(0, .slice LJ L3.length LL), (1, .int .i64 LH), (2, .int .i64 LI), (3, .int .i64 LR), (10, .int .i64 LF)]) ⟨(YY (u := .slice LJ LK.length LL) rfl (by rw [Mb, L1])), rfl, rfl, rfl, rfl, trivial⟩
   refine zw (qf ?_)
   refine zI <| sM hS rfl fun hS => sB hS rfl fun hS => zF (v := Value.int .i64) (x0 := (qh (LF + (1 : Int)))) hS (xB rfl) rfl fun Mw a w hz hS => ?_
   have hM := qE hz hM; clear hz
   refine zg <| qf ?_
   exact Mh _ _ ⟨L3, Mt, Mv, Mw, hS.to [0, 1] (by kernel_rfl) ⟨rfl, rfl, rfl, rfl, rfl, trivial⟩, Ms, Ma, Mu, hM⟩
  ·refine wp_exit ?_
   refine qC (qC (q9 ?_))
   exact yT (rs := []) hS rfl rfl (hret LK LG L4 _ (zn hM) LP LM L6 (hS.st.pick [0, 1] (by kernel_rfl)))
theorem yK {H : xT} {F : List qp} {w : World} {R : Ending → World → Prop} {kr : (List qb) → Prop} {kp : Value → Prop} (hG : Gl H) (K : Nat) (LQ : List qb) (LU : Int) (LJ : Int) (LV : Int) (LI : qp) (LF : Option Addr) (LG : Nat) (LL : List (zq 2)) (L5 : qp) (Mi : zr (qg LI) LQ LL) (Mj : xb 112 (zq.v (sz := 2)) 2 LF LL LG L5)
    (hS : St w H [LI, L5] F) (hm : (qz.m K LQ LU LJ LV).wp kr kp)
    (hret : ∀ (LW : List (zq 2)) (LS : (List qb)) (Md : qp) (w : World), kr LS → (xb 112 (zq.v (sz := 2)) 2 LF LW LG Md) → (zr (qg LI) LS LW) → (LW.length = LL.length) → St w H [LI, Md] F → R (.returned (.tuple ⟨[]⟩)) w) :
    Calls Tryd.prog 108 ⟨[.slice LF LL.length LG, .int .i64 LU, .int .i64 LJ, .int .i64 LV, yA 57 [] []]⟩ w R := by
 refine enter Tryd.func108 rfl Tryd.ntmps108 rfl hS fun a w hS => ?_
 have hM := hm; clear hm
 rw [qz.m] at hM
 have MF : ∀ q ∈ LI, q ∈ LI := fun _ h => h
 have Mk : LL.length = LL.length := rfl
 refine qr <| sM hS rfl fun hS => sM hS rfl fun hS => sB hS rfl fun hS => zF (v := Value.int .i64) (x0 := (qh (LJ - LU))) hS (xB rfl) rfl fun Mv a w hz hS => ?_
 have hM := qE hz hM; clear hz
 refine qJ <| qr <| sM hS rfl fun hS => sM hS rfl fun hS => sB hS rfl fun hS => zF (v := Value.int .i64) (x0 := (qh (LV - LJ))) hS (xB rfl) rfl fun Mw a w hz hS => ?_
 have hM := qE hz hM; clear hz
 refine qJ <| zc (fun a w => ∃ (LM : List (zq 2)) (LO : (List qb)) (L4 : qp) (LT : Int), Ss 58 [] [(0, .slice LF LM.length LG), (2, .int .i64 LJ), (4, yA 57 [] []), (10, .int .i64 LT)] H [LI, L4] F a w ∧ (xb 112 (zq.v (sz := 2)) 2 LF LM LG L4) ∧ (zr (qg LI) LO LM) ∧ (LM.length = LL.length) ∧ (qz.j2 K LJ LO LT).wp kr kp) (fun MG Ml => ?_) ?_
 ·refine xG ?_
  refine zt (fun Me a w => ∃ (LH : List (zq 2)) (LK : (List qb)) (LR : qp) (LN : Int) (LP : Int), Ss 58 [] [(0, .slice LF LH.length LG), (2, .int .i64 LJ), (4, yA 57 [] []), (10, .int .i64 LN), (11, .int .i64 LP)] H [LI, LR] F a w ∧ (xb 112 (zq.v (sz := 2)) 2 LF LH LG LR) ∧ (zr (qg LI) LK LH) ∧ (LH.length = LL.length) ∧ (qz.l1 K LJ Me LK LN LP).wp kr kp) K ?_ ?_ ?_
  ·exact ⟨LL, LQ, L5, Mv, Mw, hS.to [0, 1] (by kernel_rfl) ⟨rfl, rfl, rfl, rfl, rfl, trivial⟩, Mj, Mi, Mk, hM⟩
  ·intro a w hI; obtain ⟨_, _, _, _, _, _, _, _, _, hM⟩ := hI; exact zm hM
  ·intro Me a w hI MH L6
   obtain ⟨LH, LK, LR, LN, LP, hS, LX, LY, LZ, hM⟩ := hI
   rw [qz.l1] at hM
   refine wp_seq <| qr <| sM hS rfl fun hS => sM hS rfl fun hS => sB hS rfl fun hS => qJ <| qI hS rfl hM (fun Mm hM => ?_) (fun Mm hM => ?_)
   ·refine wp_skip ?_
    refine qf <| xG <| qr <| sM hS rfl fun hS => sM hS rfl fun hS => sB hS rfl fun hS => qJ <| qI hS rfl hM (fun Mn hM => ?_) (fun Mn hM => ?_)
    ·refine wp_seq ?_
     refine zI <| sM hS rfl fun hS => sM hS rfl fun hS => sM hS rfl fun hS => sB hS rfl fun hS => sM hS rfl fun hS => sM hS rfl fun hS => sM hS rfl fun hS => qN hS rfl Tryd.call109 (xo hG K LK (qh (LJ - LN)) LJ LP LI LF LG LH LR LY LX (hS.st.part 2 [0, 1] (by kernel_rfl)) (qv hM) (fun L0 L7 Mf w hM Mx My L8 hst => qG hS.ev hst.appF rfl fun hS => ?_))
     replace hS : Ss _ _ _ H [LI, Mf] F _ _ := hS
     have Mp := Eq.trans L8 LZ
     replace hS := hS.re 0 (u := .slice LF LH.length LG) (v := .slice LF L0.length LG) rfl (by rw [L8])
     replace hS := hS.re 24 (u := .slice LF LH.length LG) (v := .slice LF L0.length LG) rfl (by rw [L8])
     refine qJ <| zI <| sM hS rfl fun hS => sM hS rfl fun hS => sB hS rfl fun hS => zF (v := Value.int .i64) (x0 := (qh (LN - LP))) hS (xB rfl) rfl fun Mz a w hz hS => ?_
     have hM := qE hz hM; clear hz
     refine zg <| zw (qf ?_)
     exact L6 _ _ ⟨L0, L7, Mf, Mz, LP, hS.to [0, 1] (by kernel_rfl) ⟨rfl, rfl, rfl, rfl, rfl, trivial⟩, Mx, My, Mp, hM⟩
    ·refine wp_seq ?_
     refine zI <| sM hS rfl fun hS => sM hS rfl fun hS => sM hS rfl fun hS => sB hS rfl fun hS => sM hS rfl fun hS => sM hS rfl fun hS => sB hS rfl fun hS => sM hS rfl fun hS => sB hS rfl fun hS => sM hS rfl fun hS => sM hS rfl fun hS => qN hS rfl Tryd.call109 (xo hG K LK (qh (LJ - LN)) (qh ((qh (LJ + LP)) - LN)) LN LI LF LG LH LR LY LX (hS.st.part 2 [0, 1] (by kernel_rfl)) (qv hM) (fun L1 L9 Mg w hM MA MB Ma hst => qG hS.ev hst.appF rfl fun hS => ?_))
     replace hS : Ss _ _ _ H [LI, Mg] F _ _ := hS
     have Mq := Eq.trans Ma LZ
     replace hS := hS.re 0 (u := .slice LF LH.length LG) (v := .slice LF L1.length LG) rfl (by rw [Ma])
     replace hS := hS.re 35 (u := .slice LF LH.length LG) (v := .slice LF L1.length LG) rfl (by rw [Ma])
     refine qJ <| zI <| sM hS rfl fun hS => sM hS rfl fun hS => sB hS rfl fun hS => zF (v := Value.int .i64) (x0 := (qh (LP - LN))) hS (xB rfl) rfl fun MC a w hz hS => ?_
     have hM := qE hz hM; clear hz
     refine zg <| zw (qf ?_)
     exact L6 _ _ ⟨L1, L9, Mg, LN, MC, hS.to [0, 1] (by kernel_rfl) ⟨rfl, rfl, rfl, rfl, rfl, trivial⟩, MA, MB, Mq, hM⟩
   ·refine wp_exit ?_
    refine qC (qC (q9 (qf ?_)))
    exact Ml _ _ ⟨LH, LK, LR, LN, hS.to [0, 1] (by kernel_rfl) ⟨rfl, rfl, rfl, rfl, trivial⟩, LX, LY, LZ, hM⟩
 ·intro a w hI
  obtain ⟨LM, LO, L4, LT, hS, Mr, Ms, Mt, hM⟩ := hI
  rw [qz.j2] at hM
  refine zI <| sM hS rfl fun hS => sM hS rfl fun hS => sM hS rfl fun hS => sB hS rfl fun hS => sM hS rfl fun hS => sM hS rfl fun hS => sM hS rfl fun hS => qN hS rfl Tryd.call109 (xo hG K LO (qh (LJ - LT)) LJ LT LI LF LG LM L4 Ms Mr (hS.st.part 2 [0, 1] (by kernel_rfl)) (qv hM) (fun L3 Mb Mh w hM MD ME Mc hst => qG hS.ev hst.appF rfl fun hS => ?_))
  replace hS : Ss _ _ _ H [LI, Mh] F _ _ := hS
  have Mu := Eq.trans Mc Mt
  replace hS := hS.re 0 (u := .slice LF LM.length LG) (v := .slice LF L3.length LG) rfl (by rw [Mc])
  replace hS := hS.re 50 (u := .slice LF LM.length LG) (v := .slice LF L3.length LG) rfl (by rw [Mc])
  refine zg ?_
  exact yT (rs := []) hS rfl rfl (hret L3 Mb Mh _ (zn hM) MD ME Mu (hS.st.pick [0, 1] (by kernel_rfl)))
end Go.TrydS

