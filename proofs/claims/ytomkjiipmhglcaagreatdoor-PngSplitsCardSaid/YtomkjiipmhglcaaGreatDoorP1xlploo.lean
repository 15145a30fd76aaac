/- Printed by a program of mine: each Go function answers what its model answers; conditions: what each theorem asks of memory. -/
import Derived.Test.YtomkjiipmhglcaaGreatDoorMcjkkd
import Derived.Test.YtomkjiipmhglcaaGreatDoorChecked
set_option linter.unusedVariables false
set_option linter.unusedSimpArgs false
set_option maxRecDepth 100000
namespace Go.TryzS
open Go Go.Sl Go.Mo Go.Proofs
attribute [local irreducible] q7.wp
theorem zV : Tryz.prog.follows .mixedOrders = true := by kernel_rfl
def _root_.Go.Mo.xk.cells (x : xk) : List Value := [.int .i64 x.W_, .int .i64 x.H_, .int .i64 x.Samples_, qN x.Pixels_]
def _root_.Go.Mo.yq.cells (x : yq) : List Value := [.int .u8 x.kind_, .int .i64 x.samples_]
def _root_.Go.Mo.qH.cells (x : qH) : List Value := [.int .u8 x.Lit_, .int .i64 x.Len_, .int .i64 x.Dist_]
def _root_.Go.Mo.qs.cells (x : qs) : List Value := [.int .i64 x.at_]
def _root_.Go.Mo.xr.cells (x : xr) : List Value := [.int .i64 x.symbol_, .int .i64 x.bits_, .int .u32 x.more_]
def _root_.Go.Mo.ql.cells (x : ql) : List Value := [.int .i64 x.symbol_, .int .i64 x.more_, .int .i64 x.bits_]
def _root_.Go.Mo.qd.cells (x : qd) : List Value := [qN x.Type_, qN x.Data_]
def _root_.Go.Mo.ze.cells (x : ze) : List Value := [qN x.text_, .int .i64 x.base_]
def _root_.Go.Mo.qE.cells (x : qE) : List Value := [.int .i64 x.place_.at_, qN x.text_]
def _root_.Go.Mo.xc.cells (x : xc) : List Value := [.int .i64 x.from_, .int .i64 x.bits_]
theorem X.el3 : El Tryz.prog 3 1 8 := ⟨_, _, Tryz.typeInfo3, rfl, rfl, rfl, rfl⟩
theorem X.el5 : El Tryz.prog 5 1 1 := ⟨_, _, Tryz.typeInfo5, rfl, rfl, rfl, rfl⟩
theorem X.el30 : El Tryz.prog 30 2 32 := ⟨_, _, Tryz.typeInfo30, rfl, rfl, rfl, rfl⟩
theorem X.el119 : El Tryz.prog 119 3 24 := ⟨_, _, Tryz.typeInfo119, rfl, rfl, rfl, rfl⟩
theorem X.el128 : El Tryz.prog 128 1 24 := ⟨_, _, Tryz.typeInfo128, rfl, rfl, rfl, rfl⟩
theorem X.el145 : El Tryz.prog 145 3 24 := ⟨_, _, Tryz.typeInfo145, rfl, rfl, rfl, rfl⟩
theorem X.el176 : El Tryz.prog 176 1 24 := ⟨_, _, Tryz.typeInfo176, rfl, rfl, rfl, rfl⟩
theorem X.el178 : El Tryz.prog 178 2 32 := ⟨_, _, Tryz.typeInfo178, rfl, rfl, rfl, rfl⟩
theorem xg : ∀ x, ∀ u ∈ (ci .i64) x, u.oneCell' = true := fun x u hu => by cases hu with | head => rfl | tail _ h => cases h
theorem jc : ∀ x, ∀ u ∈ (ci .u8) x, u.oneCell' = true := fun x u hu => by cases hu with | head => rfl | tail _ h => cases h
theorem XJ : ∀ x, ∀ u ∈ qd.cells x, u.oneCell' = true := by
  intro x u hu
  simp only [qd.cells, List.mem_cons, List.not_mem_nil, or_false] at hu
  rcases hu with rfl | rfl <;> rfl
theorem Yo : ∀ x, ∀ u ∈ qH.cells x, u.oneCell' = true := by
  intro x u hu
  simp only [qH.cells, List.mem_cons, List.not_mem_nil, or_false] at hu
  rcases hu with rfl | rfl | rfl <;> rfl
theorem uK : ∀ x, ∀ u ∈ ql.cells x, u.oneCell' = true := by
  intro x u hu
  simp only [ql.cells, List.mem_cons, List.not_mem_nil, or_false] at hu
  rcases hu with rfl | rfl | rfl <;> rfl
structure Gl (H : z7) : Prop where
  g0 : ∃ T fr, H 0 = some (.cells ⟨tab_png_colors.flatMap yq.cells⟩ T fr)
  g1 : ∃ T fr, H 1 = some (.cells ⟨tab_sums_half.flatMap (ci .u32)⟩ T fr)
  g2 : ∃ T fr, H 2 = some (.cells ⟨tab_deflate_order.flatMap (ci .i64)⟩ T fr)
  g3 : ∃ T fr, H 3 = some (.cells ⟨tab_inflate_lengths.flatMap xc.cells⟩ T fr)
  g4 : ∃ T fr, H 4 = some (.cells ⟨tab_inflate_distances.flatMap xc.cells⟩ T fr)
  g5 : ∃ T fr, H 5 = some (.cells ⟨tab_inflate_order.flatMap (ci .i64)⟩ T fr)
theorem ZN {H : z7} {F : List qj} {w : World} {R : Ending → World → Prop} {b : Nat} {f : qj} {A : Option Addr} {v : Value} (hB : xf f b [.pointer A, v] 61) (hA : A = none ∨ A = some ⟨b, 0, none⟩) (hS : St w H [f] F)
    (hret : ∀ (A' : Option Addr) (f' : qj) (w : World), (A' = none ∨ A' = some ⟨b, 0, none⟩) → xf f' b [.pointer A', v] 61 → St w H [f'] F → R (.returned (.tuple ⟨[]⟩)) w) : Calls Tryz.prog 56 ⟨[qx b 0]⟩ w R := by
 rcases hA with rfl | rfl
 ·refine enter Tryz.func56 rfl Tryz.ntmps56 rfl hS fun a w hS => ?_
  refine qe <| sM hS rfl fun hS => sO hS (xM rfl) rfl fun hS => sO hS (zz rfl Tryz.runUnderlying61 rfl Tryz.sizeOf59 rfl) rfl fun hS => sO hS (zU 0 rfl hB rfl rfl Tryz.isAgg59) rfl fun hS => sO hS (uD rfl rfl Tryz.runUnderlying59) rfl fun hS => qm <| ZE hS rfl ?_
  refine zb <| sM hS rfl fun hS => sM hS rfl fun hS => sO hS (VH 0 rfl hB rfl Tryz.underlying59 Tryz.underlying95 (z := 1) (by kernel_rfl) rfl) rfl fun hS => sO hS (JX rfl (fun args w => run_callFunc_extern Tryz.func73 (by kernel_rfl) (by kernel_rfl) (by kernel_rfl) (by kernel_rfl) args w)) rfl fun hS => sO hS (Vu 0 rfl hB rfl Tryz.underlying95 Tryz.underlying59 (z := 2) (by kernel_rfl) (by kernel_rfl)) rfl fun hS => sO hS (xM rfl) rfl fun hS => sO hS (zz rfl Tryz.runUnderlying61 rfl Tryz.sizeOf59 rfl) rfl fun hS => Qr 0 [.pointer (some ⟨b, 0, none⟩), v] hS rfl rfl hB rfl rfl rfl rfl Tryz.sizeOf59 fun w f' hB' hS => qL ?_
  exact yW (rs := []) hS rfl rfl (hret _ _ _ (.inr rfl) hB' (hS.st.pick [0] (by kernel_rfl)))
 ·refine enter Tryz.func56 rfl Tryz.ntmps56 rfl hS fun a w hS => ?_
  refine qe <| sM hS rfl fun hS => sO hS (xM rfl) rfl fun hS => sO hS (zz rfl Tryz.runUnderlying61 rfl Tryz.sizeOf59 rfl) rfl fun hS => sO hS (zU 0 rfl hB rfl rfl Tryz.isAgg59) rfl fun hS => sO hS (uD rfl rfl Tryz.runUnderlying59) rfl fun hS => qm <| v7 hS rfl ?_
  refine qe <| sM hS rfl fun hS => sO hS (xM rfl) rfl fun hS => sO hS (zz rfl Tryz.runUnderlying61 rfl Tryz.sizeOf59 rfl) rfl fun hS => sO hS (zU 0 rfl hB rfl rfl Tryz.isAgg59) rfl fun hS => sM hS rfl fun hS => sO hS (Jf rfl rfl Tryz.underlying59 (z := 2) (by kernel_rfl)) rfl fun hS => qm <| v7 hS rfl <| wp_skip ?_
  exact yW (rs := []) hS rfl rfl (hret _ _ _ (.inr rfl) hB (hS.st.pick [0] (by kernel_rfl)))
theorem Xu {H : z7} {F : List qj} {w : World} {R : Ending → World → Prop} {kr : Bool → Prop} {kp : Value → Prop} (hG : Gl H) (K : Nat) (VO : xk)
    (hS : St w H [] F) (hm : (xK.m K VO).wp kr kp)
    (hret : ∀ (V2 : Bool) (w : World), kr V2 → St w H [] F → R (.returned (.bool V2)) w) :
    Calls Tryz.prog 46 ⟨[.agg ⟨[.int .i64 VO.W_, .int .i64 VO.H_, .int .i64 VO.Samples_, qN VO.Pixels_]⟩]⟩ w R := by
 refine enter Tryz.func46 rfl Tryz.ntmps46 rfl hS fun a w hS => ?_
 have hM := hm; clear hm
 rw [xK.m] at hM
 refine qe <| bx ([.int .i64 VO.W_, .int .i64 VO.H_, .int .i64 VO.Samples_, qN VO.Pixels_]) hS rfl rfl rfl fun w V0 V1 VP hS => sA hS rfl fun hS => qm <| qe <| sO hS (zz rfl Tryz.runUnderlying35 rfl Tryz.sizeOf3 rfl) rfl fun hS => sO hS (zU 0 rfl VP rfl rfl Tryz.isAgg3) rfl fun hS => sB hS rfl fun hS => sM hS rfl fun hS => xm 3 true 7 (b := (decide (VO.W_ ≥ (1 : Int)))) (r := (decide (VO.W_ ≤ (4096 : Int)))) hS rfl rfl rfl rfl rfl rfl rfl (fun hb a w hS K hK => ?_) rfl fun a w hS => ?_
 ·refine qI hS rfl rfl rfl hb (zz rfl Tryz.runUnderlying35 rfl Tryz.sizeOf3 rfl) rfl fun a w hS => ?_
  refine qI hS rfl rfl rfl hb (zU 0 rfl VP rfl rfl Tryz.isAgg3) rfl fun a w hS => qI hS rfl rfl rfl hb (xN rfl rfl rfl) rfl fun a w hS => ?_
  exact qL (hK _ _ (hS.up 3 rfl rfl))
 refine sM hS rfl fun hS => xm 3 true 12 (b := ((decide (VO.W_ ≥ (1 : Int))) && (decide (VO.W_ ≤ (4096 : Int))))) (r := (decide (VO.H_ ≥ (1 : Int)))) hS rfl rfl rfl rfl rfl rfl rfl (fun hb a w hS K hK => ?_) rfl fun a w hS => ?_
 ·refine qI hS rfl rfl rfl hb (zz rfl Tryz.runUnderlying35 rfl Tryz.sizeOf3 rfl) rfl fun a w hS => ?_
  refine qI hS rfl rfl rfl hb (zU 0 rfl VP rfl rfl Tryz.isAgg3) rfl fun a w hS => qI hS rfl rfl rfl hb (xN rfl rfl rfl) rfl fun a w hS => ?_
  exact qL (hK _ _ (hS.up 3 rfl rfl))
 refine sM hS rfl fun hS => xm 3 true 17 (b := (((decide (VO.W_ ≥ (1 : Int))) && (decide (VO.W_ ≤ (4096 : Int)))) && (decide (VO.H_ ≥ (1 : Int))))) (r := (decide (VO.H_ ≤ (4096 : Int)))) hS rfl rfl rfl rfl rfl rfl rfl (fun hb a w hS K hK => ?_) rfl fun a w hS => ?_
 ·refine qI hS rfl rfl rfl hb (zz rfl Tryz.runUnderlying35 rfl Tryz.sizeOf3 rfl) rfl fun a w hS => ?_
  refine qI hS rfl rfl rfl hb (zU 0 rfl VP rfl rfl Tryz.isAgg3) rfl fun a w hS => qI hS rfl rfl rfl hb (xN rfl rfl rfl) rfl fun a w hS => ?_
  exact qL (hK _ _ (hS.up 3 rfl rfl))
 refine qY (v := Value.bool) (x0 := ((((decide (VO.W_ ≥ (1 : Int))) && (decide (VO.W_ ≤ (4096 : Int)))) && (decide (VO.H_ ≥ (1 : Int)))) && (decide (VO.H_ ≤ (4096 : Int))))) hS (zE rfl) rfl fun VT a w hz hS => ?_
 have hM := qp hz hM; clear hz
 refine qm <| qe <| sM hS rfl fun hS => sM hS rfl fun hS => yA (fun a w => ∃ (VU : Bool), Ss 63 [] [(1, qx V0 0), (37, .bool VU)] H [V1] F a w ∧ (xK.j3 K VO VU).wp kr kp) 14 (fun V6 VX => ?_) ?_
 ·refine Xi (b := VT) hM (fun VQ hM => ?_) (fun VQ hM => ?_)
  ·replace hS := hS.re 3 (v := .bool true) rfl (congrArg Value.bool VQ)
   replace hS := hS.re 22 (v := .bool true) rfl (congrArg Value.bool VQ)
   replace hS := hS.re 23 (v := .bool true) rfl (congrArg Value.bool VQ)
   refine qI hS rfl rfl rfl rfl (zz rfl Tryz.runUnderlying35 rfl Tryz.sizeOf3 rfl) rfl fun a w hS => qI hS rfl rfl rfl rfl (zU 0 rfl VP rfl rfl Tryz.isAgg3) rfl fun a w hS => qI hS rfl rfl rfl rfl (xN rfl rfl rfl) rfl fun a w hS => qI hS rfl rfl rfl rfl (mv rfl) rfl fun a w hS => yA (fun a w => ∃ (VY : Bool), Ss 63 [] [(1, qx V0 0), (23, .bool true), (31, .bool VY)] H [V1] F a w ∧ (xK.j1 K VO VY).wp kr kp) 4 (fun V4 VV => ?_) ?_
   ·refine Xi (b := (VO.Samples_ == (1 : Int))) hM (fun VR hM => ?_) (fun VR hM => ?_)
    ·replace hS := hS.re 26 (v := .bool true) rfl (congrArg Value.bool VR)
     replace hS := hS.re 27 (v := .bool true) rfl (congrArg Value.bool VR)
     refine vL 3 hS rfl fun a w hS => qI hS rfl rfl rfl rfl (pk rfl rfl rfl) rfl fun a w hS => qL <| qc ?_
     exact VV _ _ ⟨true, hS.to [0] (by kernel_rfl) ⟨rfl, rfl, rfl, trivial⟩, hM⟩
    ·replace hS := hS.re 26 (v := .bool false) rfl (congrArg Value.bool VR)
     replace hS := hS.re 27 (v := .bool false) rfl (congrArg Value.bool VR)
     refine qI hS rfl rfl rfl rfl (zz rfl Tryz.runUnderlying35 rfl Tryz.sizeOf3 rfl) rfl fun a w hS => qI hS rfl rfl rfl rfl (zU 0 rfl VP rfl rfl Tryz.isAgg3) rfl fun a w hS => qI hS rfl rfl rfl rfl (xN rfl rfl rfl) rfl fun a w hS => qI hS rfl rfl rfl rfl (pk rfl rfl rfl) rfl fun a w hS => qL <| qc ?_
     exact VV _ _ ⟨(VO.Samples_ == (3 : Int)), hS.to [0] (by kernel_rfl) ⟨rfl, rfl, rfl, trivial⟩, hM⟩
   ·intro a w hI
    obtain ⟨VY, hS, hM⟩ := hI
    rw [xK.j1] at hM
    refine qI hS rfl rfl rfl rfl (mv rfl) rfl fun a w hS => yA (fun a w => ∃ (VZ : Bool), Ss 63 [] [(1, qx V0 0), (23, .bool true), (36, .bool VZ)] H [V1] F a w ∧ (xK.j2 K VO VZ).wp kr kp) 4 (fun V5 VW => ?_) ?_
    ·refine Xi (b := VY) hM (fun VS hM => ?_) (fun VS hM => ?_)
     ·replace hS := hS.re 31 (v := .bool true) rfl (congrArg Value.bool VS)
      replace hS := hS.re 32 (v := .bool true) rfl (congrArg Value.bool VS)
      refine vL 3 hS rfl fun a w hS => qI hS rfl rfl rfl rfl (pk rfl rfl rfl) rfl fun a w hS => qL <| qc ?_
      exact VW _ _ ⟨true, hS.to [0] (by kernel_rfl) ⟨rfl, rfl, rfl, trivial⟩, hM⟩
     ·replace hS := hS.re 31 (v := .bool false) rfl (congrArg Value.bool VS)
      replace hS := hS.re 32 (v := .bool false) rfl (congrArg Value.bool VS)
      refine qI hS rfl rfl rfl rfl (zz rfl Tryz.runUnderlying35 rfl Tryz.sizeOf3 rfl) rfl fun a w hS => qI hS rfl rfl rfl rfl (zU 0 rfl VP rfl rfl Tryz.isAgg3) rfl fun a w hS => qI hS rfl rfl rfl rfl (xN rfl rfl rfl) rfl fun a w hS => qI hS rfl rfl rfl rfl (pk rfl rfl rfl) rfl fun a w hS => qL <| qc ?_
      exact VW _ _ ⟨(VO.Samples_ == (4 : Int)), hS.to [0] (by kernel_rfl) ⟨rfl, rfl, rfl, trivial⟩, hM⟩
    ·intro a w hI
     obtain ⟨VZ, hS, hM⟩ := hI
     rw [xK.j2] at hM
     refine sO hS (pk rfl rfl rfl) rfl fun hS => qL <| qc ?_
     exact VX _ _ ⟨VZ, hS.to [0] (by kernel_rfl) ⟨rfl, rfl, trivial⟩, hM⟩
  ·replace hS := hS.re 3 (v := .bool false) rfl (congrArg Value.bool VQ)
   replace hS := hS.re 22 (v := .bool false) rfl (congrArg Value.bool VQ)
   replace hS := hS.re 23 (v := .bool false) rfl (congrArg Value.bool VQ)
   refine vL 13 hS rfl fun a w hS => sO hS (pk rfl rfl rfl) rfl fun hS => qL <| qc ?_
   exact VX _ _ ⟨false, hS.to [0] (by kernel_rfl) ⟨rfl, rfl, trivial⟩, hM⟩
 ·intro a w hI
  obtain ⟨VU, hS, hM⟩ := hI
  rw [xK.j3] at hM
  refine sM hS rfl fun hS => xm 9 true 38 (b := VU) (r := (decide ((qi ((qi (VO.W_ * VO.H_)) * VO.Samples_)) ≤ (16777216 : Int)))) hS rfl rfl rfl rfl rfl rfl rfl (fun hb a w hS K hK => ?_) rfl fun a w hS => ?_
  ·refine qI hS rfl rfl rfl hb (zz rfl Tryz.runUnderlying35 rfl Tryz.sizeOf3 rfl) rfl fun a w hS => ?_
   refine qI hS rfl rfl rfl hb (zU 0 rfl VP rfl rfl Tryz.isAgg3) rfl fun a w hS => qI hS rfl rfl rfl hb (zz rfl Tryz.runUnderlying35 rfl Tryz.sizeOf3 rfl) rfl fun a w hS => qI hS rfl rfl rfl hb (zU 0 rfl VP rfl rfl Tryz.isAgg3) rfl fun a w hS => qI hS rfl rfl rfl hb (xN rfl rfl rfl) rfl fun a w hS => qI hS rfl rfl rfl hb (zz rfl Tryz.runUnderlying35 rfl Tryz.sizeOf3 rfl) rfl fun a w hS => qI hS rfl rfl rfl hb (zU 0 rfl VP rfl rfl Tryz.isAgg3) rfl fun a w hS => qI hS rfl rfl rfl hb (xN rfl rfl rfl) rfl fun a w hS => qI hS rfl rfl rfl hb (xN rfl rfl rfl) rfl fun a w hS => ?_
   exact qL (hK _ _ (hS.up 9 rfl rfl))
  refine sM hS rfl fun hS => xm 12 true 49 (b := (VU && (decide ((qi ((qi (VO.W_ * VO.H_)) * VO.Samples_)) ≤ (16777216 : Int))))) (r := ((VO.Pixels_.length : Int) == (qi ((qi (VO.W_ * VO.H_)) * VO.Samples_)))) hS rfl rfl rfl rfl rfl rfl rfl (fun hb a w hS K hK => ?_) rfl fun a w hS => ?_
  ·refine qI hS rfl rfl rfl hb (zz rfl Tryz.runUnderlying35 rfl Tryz.sizeOf9 rfl) rfl fun a w hS => ?_
   refine qI hS rfl rfl rfl hb (zU 0 rfl VP rfl rfl Tryz.isAgg9) rfl fun a w hS => qI hS rfl rfl rfl hb (ye rfl Tryz.runUnderlying9) rfl fun a w hS => qI hS rfl rfl rfl hb (zz rfl Tryz.runUnderlying35 rfl Tryz.sizeOf3 rfl) rfl fun a w hS => qI hS rfl rfl rfl hb (zU 0 rfl VP rfl rfl Tryz.isAgg3) rfl fun a w hS => qI hS rfl rfl rfl hb (zz rfl Tryz.runUnderlying35 rfl Tryz.sizeOf3 rfl) rfl fun a w hS => qI hS rfl rfl rfl hb (zU 0 rfl VP rfl rfl Tryz.isAgg3) rfl fun a w hS => qI hS rfl rfl rfl hb (xN rfl rfl rfl) rfl fun a w hS => qI hS rfl rfl rfl hb (zz rfl Tryz.runUnderlying35 rfl Tryz.sizeOf3 rfl) rfl fun a w hS => qI hS rfl rfl rfl hb (zU 0 rfl VP rfl rfl Tryz.isAgg3) rfl fun a w hS => qI hS rfl rfl rfl hb (xN rfl rfl rfl) rfl fun a w hS => qI hS rfl rfl rfl hb (xN rfl rfl rfl) rfl fun a w hS => ?_
   exact qL (hK _ _ (hS.up 12 rfl rfl))
  refine qY (v := Value.bool) (x0 := ((VU && (decide ((qi ((qi (VO.W_ * VO.H_)) * VO.Samples_)) ≤ (16777216 : Int)))) && ((VO.Pixels_.length : Int) == (qi ((qi (VO.W_ * VO.H_)) * VO.Samples_))))) hS (zE rfl) rfl fun V3 a w hz hS => ?_
  have hM := qp hz hM; clear hz
  refine qm <| wp_ret ?_
  exact qP (rs := [2]) hS rfl rfl (hret V3 _ (qG hM) (hS.st.pick [] (by kernel_rfl)))
theorem jI {H : z7} {F : List qj} {w : World} {R : Ending → World → Prop} {kr : (List Int) → Prop} {kp : Value → Prop} (hG : Gl H) (K : Nat) (VQ : (List Int)) (VO : Int) (VT : Nat) (V4 : qj) (VY : QT 61 5 VT VQ V4)
    (hS : St w H [V4] F) (hm : (x7.m K VQ VO).wp kr kp)
    (hret : ∀ (VR : (List Int)) (V5 : qj) (w : World), kr VR → (QT 61 5 VT VR V5) → St w H [V5] F → R (.returned (.nilIface)) w) :
    Calls Tryz.prog 47 ⟨[qx VT 0, .int .u8 VO]⟩ w R := by
 refine enter Tryz.func47 rfl Tryz.ntmps47 rfl hS fun a w hS => ?_
 have hM := hm; clear hm
 rw [x7.m] at hM
 obtain ⟨Ud, Ue, Ug, Ui, V9, VU, VW, V0, rfl⟩ := VY
 replace hS := hS.split
 refine qe <| sA hS rfl fun hS => qm <| qe <| sM hS rfl fun hS => qq hS rfl Tryz.call56 (ZN VW VU (hS.st.part 1 [0, 1] (by kernel_rfl)) (fun V6 Ua w VV VS hst => qn hS.ev hst.appF rfl fun hS => ?_))
 replace hS : Ss _ _ _ H [Ua, V9] F _ _ := hS
 refine qm <| qe <| sM hS rfl fun hS => sM hS rfl fun hS => sO hS (xM rfl) rfl fun hS => sO hS (zz rfl Tryz.runUnderlying61 rfl Tryz.sizeOf44 rfl) rfl fun hS => sO hS (zU 0 rfl VS rfl rfl Tryz.isAgg44) rfl fun hS => sM hS rfl fun hS => Qh (g := (ci .u8)) ([VO] : List Int) [.int .u8 VO] hS Tryz.runUnderlying44 Tryz.sizeOf5 X.el5 rfl rfl rfl (by simp [Value.cells]) rfl rfl rfl rfl rfl fun w Uf Uh Ub V1 hS => ?_
 obtain ⟨V3, hM⟩ := qt hM
 refine QR (ys := ([VO] : List Int)) 2 hS rfl rfl V0 rfl (V1.rd (i := 0) rfl) Tryz.runUnderlying44 Tryz.runUnderlying44 X.el5 (fun _ => rfl) rfl jc V3 rfl fun VP w V7 V8 Uj hz V2 hS => ?_
 have hM := qp hz hM; clear hz
 refine sO hS (xM rfl) rfl fun hS => sO hS (zz rfl Tryz.runUnderlying61 rfl Tryz.sizeOf44 rfl) rfl fun hS => Qr 1 ([.pointer V6, .slice V7 VP.length V8]) hS rfl rfl VS rfl rfl rfl rfl Tryz.sizeOf44 fun w Uk VX hS => qm <| qe <| sA hS rfl fun hS => qm <| wp_ret ?_
 replace hS := hS.front [1, 2, 0] (by kernel_rfl)
 obtain ⟨Uc, VZ, hS⟩ : ∃ f, QT 61 5 VT VP f ∧ Ss _ _ _ H (f :: [Ub]) F _ _ := ⟨_, ⟨_, _, _, _, _, VV, VX, V2, rfl⟩, hS.join⟩
 exact qP (rs := [4]) hS rfl rfl (hret VP Uc _ (qG hM) VZ (hS.st.pick [0] (by kernel_rfl)))
theorem xe {H : z7} {F : List qj} {w : World} {R : Ending → World → Prop} {kr : (Int × (List Int)) → Prop} {kp : Value → Prop} (hG : Gl H) (K : Nat) (VR : (List Int)) (Ua : List UInt8) (V2 : Nat) (Uc : qj) (V9 : QT 61 5 V2 VR Uc)
    (hS : St w H [Uc] F) (hm : (zQ.m K VR Ua).wp kr kp)
    (hret : ∀ (V1 : Int) (VP : (List Int)) (VS : qj) (w : World), kr (V1, VP) → (QT 61 5 V2 VP VS) → St w H [VS] F → R (.returned (.tuple ⟨[.int .i64 V1, .nilIface]⟩)) w) :
    Calls Tryz.prog 32 ⟨[qx V2 0, qN Ua]⟩ w R := by
 refine enter Tryz.func32 rfl Tryz.ntmps32 rfl hS fun a w hS => ?_
 have hM := hm; clear hm
 rw [zQ.m] at hM
 obtain ⟨Uf, Ug, Uh, Ui, V6, VT, VV, VY, rfl⟩ := V9
 replace hS := hS.split
 refine qe <| sA hS rfl fun hS => sA hS rfl fun hS => qm <| qe <| sM hS rfl fun hS => qq hS rfl Tryz.call56 (ZN VV VT (hS.st.part 1 [0, 1] (by kernel_rfl)) (fun V3 V7 w VU VQ hst => qn hS.ev hst.appF rfl fun hS => ?_))
 replace hS : Ss _ _ _ H [V7, V6] F _ _ := hS
 refine qm <| qe <| sM hS rfl fun hS => sM hS rfl fun hS => sO hS (xM rfl) rfl fun hS => sO hS (zz rfl Tryz.runUnderlying61 rfl Tryz.sizeOf44 rfl) rfl fun hS => sO hS (zU 0 rfl VQ rfl rfl Tryz.isAgg44) rfl fun hS => sM hS rfl fun hS => ?_
 obtain ⟨V0, hM⟩ := qt hM
 refine JR 1 hS rfl rfl VY rfl Tryz.runUnderlying44 Tryz.runUnderlying9 X.el5 rfl V0 rfl fun VO w V4 V5 Ud hz VZ hS => ?_
 have hM := qp hz hM; clear hz
 refine sO hS (xM rfl) rfl fun hS => sO hS (zz rfl Tryz.runUnderlying61 rfl Tryz.sizeOf44 rfl) rfl fun hS => Qr 0 ([.pointer V3, .slice V4 VO.length V5]) hS rfl rfl VQ rfl rfl rfl rfl Tryz.sizeOf44 fun w Ue VW hS => qm <| qe <| sM hS rfl fun hS => sO hS (ye rfl Tryz.runUnderlying9) rfl fun hS => qY (v := Value.int .i64) (x0 := (Ua.length : Int)) hS (zE rfl) rfl fun Ub a w hz hS => ?_
 have hM := qp hz hM; clear hz
 refine sA hS rfl fun hS => qm <| wp_ret ?_
 replace hS := hS.front [0, 1] (by kernel_rfl)
 obtain ⟨V8, VX, hS⟩ : ∃ f, QT 61 5 V2 VO f ∧ Ss _ _ _ H (f :: []) F _ _ := ⟨_, ⟨_, _, _, _, _, VU, VW, VZ, rfl⟩, hS.join⟩
 exact qP (rs := [4, 5]) hS rfl rfl (hret Ub VO V8 _ (qG hM) VX (hS.st.pick [0] (by kernel_rfl)))
theorem um {H : z7} {F : List qj} {w : World} {R : Ending → World → Prop} {kr : Bool → Prop} {kp : Value → Prop} (hG : Gl H) (K : Nat) (VO : Int)
    (hS : St w H [] F) (hm : (jv.m K VO).wp kr kp)
    (hret : ∀ (VP : Bool) (w : World), kr VP → St w H [] F → R (.returned (.bool VP)) w) :
    Calls Tryz.prog 52 ⟨[.int .i64 VO]⟩ w R := by
 refine enter Tryz.func52 rfl Tryz.ntmps52 rfl hS fun a w hS => ?_
 have hM := hm; clear hm
 rw [jv.m] at hM
 refine qe <| sA hS rfl fun hS => qm <| qe <| sM hS rfl fun hS => sB hS rfl fun hS => sM hS rfl fun hS => xm 2 true 5 (b := (decide (VO > (0 : Int)))) (r := (decide (VO ≤ (8 : Int)))) hS rfl rfl rfl rfl rfl rfl rfl (fun hb a w hS K hK => ?_) rfl fun a w hS => ?_
 ·refine qI hS rfl rfl rfl hb (mv rfl) rfl fun a w hS => ?_
  refine qI hS rfl rfl rfl hb (xN rfl rfl rfl) rfl fun a w hS => ?_
  exact qL (hK _ _ (hS.up 2 rfl rfl))
 refine sM hS rfl fun hS => xm 5 true 9 (b := ((decide (VO > (0 : Int))) && (decide (VO ≤ (8 : Int))))) (r := ((xi .i64 VO (qi (VO - (1 : Int)))) == (0 : Int))) hS rfl rfl rfl rfl rfl rfl rfl (fun hb a w hS K hK => ?_) rfl fun a w hS => ?_
 ·refine qI hS rfl rfl rfl hb (mv rfl) rfl fun a w hS => ?_
  refine qI hS rfl rfl rfl hb (mv rfl) rfl fun a w hS => qI hS rfl rfl rfl hb (xN rfl rfl rfl) rfl fun a w hS => qI hS rfl rfl rfl hb (xN rfl rfl rfl) rfl fun a w hS => qI hS rfl rfl rfl hb (xN rfl rfl rfl) rfl fun a w hS => ?_
  exact qL (hK _ _ (hS.up 5 rfl rfl))
 refine qY (v := Value.bool) (x0 := (((decide (VO > (0 : Int))) && (decide (VO ≤ (8 : Int)))) && ((xi .i64 VO (qi (VO - (1 : Int)))) == (0 : Int)))) hS (zE rfl) rfl fun VQ a w hz hS => ?_
 have hM := qp hz hM; clear hz
 refine qm <| wp_ret ?_
 exact qP (rs := [2]) hS rfl rfl (hret VQ _ (qG hM) (hS.st.pick [] (by kernel_rfl)))
theorem uI {H : z7} {F : List qj} {w : World} {R : Ending → World → Prop} {kr : Int → Prop} {kp : Value → Prop} (hG : Gl H) (K : Nat) (VT : Int)
    (hS : St w H [] F) (hm : (zC.m K VT).wp kr kp)
    (hret : ∀ (V5 : Int) (w : World), kr V5 → St w H [] F → R (.returned (.int .i64 V5)) w) :
    Calls Tryz.prog 65 ⟨[.int .u64 VT]⟩ w R := by
 refine enter Tryz.func65 rfl Tryz.ntmps65 rfl hS fun a w hS => ?_
 have hM := hm; clear hm
 rw [zC.m] at hM
 refine qe <| sA hS rfl fun hS => qm <| qV (fun a w => ∃ (VR : Int) (VO : Int), Ss 25 [] [(0, .int .u64 VR), (2, .int .i64 VO)] H [] F a w ∧ (zC.j1 K VR VO).wp kr kp) (fun V9 VV => ?_) ?_
 ·refine wp_seq ?_
  refine zb <| sM hS rfl fun hS => sB hS rfl fun hS => qm <| qo hS rfl hM (fun VY hM => ?_) (fun VY hM => ?_)
  ·refine wp_seq ?_
   refine zb <| sM hS rfl fun hS => sO hS (shr rfl rfl rfl) rfl fun hS => qY (v := Value.int .u64) (x0 := (zX .u64 VT (32 : Int))) hS (zE rfl) rfl fun V6 a w hz hS => ?_
   have hM := qp hz hM; clear hz
   refine qm <| zb <| sA hS rfl fun hS => qL <| qc ?_
   exact VV _ _ ⟨V6, (32 : Int), hS.to [] (by kernel_rfl) ⟨rfl, rfl, trivial⟩, hM⟩
  ·refine wp_skip ?_
   refine qc ?_
   exact VV _ _ ⟨VT, (0 : Int), hS.to [] (by kernel_rfl) ⟨rfl, rfl, trivial⟩, hM⟩
 ·intro a w hI
  obtain ⟨VR, VO, hS, hM⟩ := hI
  rw [zC.j1] at hM
  refine qV (fun a w => ∃ (VS : Int) (VP : Int), Ss 25 [] [(0, .int .u64 VS), (2, .int .i64 VP)] H [] F a w ∧ (zC.j2 K VS VP).wp kr kp) (fun Ua VW => ?_) ?_
  ·refine wp_seq ?_
   refine zb <| sM hS rfl fun hS => sB hS rfl fun hS => qm <| qo hS rfl hM (fun VZ hM => ?_) (fun VZ hM => ?_)
   ·refine wp_seq ?_
    refine zb <| sM hS rfl fun hS => sO hS (shr rfl rfl rfl) rfl fun hS => qY (v := Value.int .u64) (x0 := (zX .u64 VR (16 : Int))) hS (zE rfl) rfl fun V7 a w hz hS => ?_
    have hM := qp hz hM; clear hz
    refine qm <| zb <| sM hS rfl fun hS => sB hS rfl fun hS => qY (v := Value.int .i64) (x0 := (qi (VO + (16 : Int)))) hS (zE rfl) rfl fun V2 a w hz hS => ?_
    have hM := qp hz hM; clear hz
    refine qL <| qc ?_
    exact VW _ _ ⟨V7, V2, hS.to [] (by kernel_rfl) ⟨rfl, rfl, trivial⟩, hM⟩
   ·refine wp_skip ?_
    refine qc ?_
    exact VW _ _ ⟨VR, VO, hS.to [] (by kernel_rfl) ⟨rfl, rfl, trivial⟩, hM⟩
  ·intro a w hI
   obtain ⟨VS, VP, hS, hM⟩ := hI
   rw [zC.j2] at hM
   refine qV (fun a w => ∃ (VU : Int) (VQ : Int), Ss 25 [] [(0, .int .u64 VU), (2, .int .i64 VQ)] H [] F a w ∧ (zC.j3 K VU VQ).wp kr kp) (fun Ub VX => ?_) ?_
   ·refine wp_seq ?_
    refine zb <| sM hS rfl fun hS => sB hS rfl fun hS => qm <| qo hS rfl hM (fun V0 hM => ?_) (fun V0 hM => ?_)
    ·refine wp_seq ?_
     refine zb <| sM hS rfl fun hS => sO hS (shr rfl rfl rfl) rfl fun hS => qY (v := Value.int .u64) (x0 := (zX .u64 VS (8 : Int))) hS (zE rfl) rfl fun V8 a w hz hS => ?_
     have hM := qp hz hM; clear hz
     refine qm <| zb <| sM hS rfl fun hS => sB hS rfl fun hS => qY (v := Value.int .i64) (x0 := (qi (VP + (8 : Int)))) hS (zE rfl) rfl fun V3 a w hz hS => ?_
     have hM := qp hz hM; clear hz
     refine qL <| qc ?_
     exact VX _ _ ⟨V8, V3, hS.to [] (by kernel_rfl) ⟨rfl, rfl, trivial⟩, hM⟩
    ·refine wp_skip ?_
     refine qc ?_
     exact VX _ _ ⟨VS, VP, hS.to [] (by kernel_rfl) ⟨rfl, rfl, trivial⟩, hM⟩
   ·intro a w hI
    obtain ⟨VU, VQ, hS, hM⟩ := hI
    rw [zC.j3] at hM
    refine qe <| sM hS rfl fun hS => sM hS rfl fun hS => sO hS (yT rfl Tryz.runUnderlying50 Tryz.runUnderlying5) rfl fun hS => ?_
    obtain ⟨V1, hM⟩ := qt hM
    refine sO hS (u1 rfl rfl Tryz.runUnderlying9 V1) rfl fun hS => sO hS (yT rfl Tryz.runUnderlying5 Tryz.runUnderlying3) rfl fun hS => sB hS rfl fun hS => qY (v := Value.int .i64) (x0 := (qi (VQ + (wr .i64 ((rd ([0, 1, 2, 2, 3, 3, 3, 3, 4, 4, 4, 4, 4, 4, 4, 4, 5, 5, 5, 5, 5, 5, 5, 5, 5, 5, 5, 5, 5, 5, 5, 5, 6, 6, 6, 6, 6, 6, 6, 6, 6, 6, 6, 6, 6, 6, 6, 6, 6, 6, 6, 6, 6, 6, 6, 6, 6, 6, 6, 6, 6, 6, 6, 6, 7, 7, 7, 7, 7, 7, 7, 7, 7, 7, 7, 7, 7, 7, 7, 7, 7, 7, 7, 7, 7, 7, 7, 7, 7, 7, 7, 7, 7, 7, 7, 7, 7, 7, 7, 7, 7, 7, 7, 7, 7, 7, 7, 7, 7, 7, 7, 7, 7, 7, 7, 7, 7, 7, 7, 7, 7, 7, 7, 7, 7, 7, 7, 7, 8, 8, 8, 8, 8, 8, 8, 8, 8, 8, 8, 8, 8, 8, 8, 8, 8, 8, 8, 8, 8, 8, 8, 8, 8, 8, 8, 8, 8, 8, 8, 8, 8, 8, 8, 8, 8, 8, 8, 8, 8, 8, 8, 8, 8, 8, 8, 8, 8, 8, 8, 8, 8, 8, 8, 8, 8, 8, 8, 8, 8, 8, 8, 8, 8, 8, 8, 8, 8, 8, 8, 8, 8, 8, 8, 8, 8, 8, 8, 8, 8, 8, 8, 8, 8, 8, 8, 8, 8, 8, 8, 8, 8, 8, 8, 8, 8, 8, 8, 8, 8, 8, 8, 8, 8, 8, 8, 8, 8, 8, 8, 8, 8, 8, 8, 8, 8, 8, 8, 8, 8, 8, 8, 8, 8, 8, 8, 8] : List UInt8) (wr .u8 VU)).toNat : Int))))) hS (zE rfl) rfl fun V4 a w hz hS => ?_
    have hM := qp hz hM; clear hz
    refine qm <| wp_ret ?_
    exact qP (rs := [2]) hS rfl rfl (hret V4 _ (qG hM) (hS.st.pick [] (by kernel_rfl)))
theorem vy {H : z7} {F : List qj} {w : World} {R : Ending → World → Prop} {kr : Unit → Prop} {kp : Value → Prop} (hG : Gl H) (K : Nat) (VO : Int)
    (hS : St w H [] F) (hm : (yM.m K VO).wp kr kp)
    (hret : ∀ (VP : Nat) (VQ : qj) (w : World), kr () → (xf VQ VP ([.int .i64 VO]) 3) → St w H [VQ] F → R (.returned (yH 71 [] [qx VP 0])) w) :
    Calls Tryz.prog 53 ⟨[.int .i64 VO, .bool true]⟩ w R := by
 refine enter Tryz.func53 rfl Tryz.ntmps53 rfl hS fun a w hS => ?_
 have hM := hm; clear hm
 rw [yM.m] at hM
 refine qe <| bx ([.int .i64 VO]) hS rfl rfl rfl fun w VS VT VR hS => sA hS rfl fun hS => qm <| wp_seq <| qe <| sM hS rfl fun hS => qm <| ZE hS rfl <| qe <| sO hS (JL rfl rfl) rfl fun hS => sA hS rfl fun hS => qm <| wp_ret <| qu ?_
 exact qP (rs := [4]) hS rfl rfl (hret VS VT _ (qG hM) VR (hS.st.pick [0] (by kernel_rfl)))
theorem j0 {H : z7} {F : List qj} {w : World} {R : Ending → World → Prop} {kr : Int → Prop} {kp : Value → Prop} (hG : Gl H) (K : Nat) (VO : Int) (VP : Int) (VR : Nat) (VQ : qj) (VS : xf VQ VR ([.int .i64 VP]) 3)
    (hS : St w H [VQ] F) (hm : (yp.m K VO VP).wp kr kp)
    (hret : ∀ (VT : Int) (w : World), kr VT → St w H [VQ] F → R (.returned (.int .i64 VT)) w) :
    Calls Tryz.prog 71 ⟨[.int .i64 VO, qx VR 0]⟩ w R := by
 refine enter Tryz.func71 rfl Tryz.ntmps71 rfl hS fun a w hS => ?_
 have hM := hm; clear hm
 rw [yp.m] at hM
 refine qe <| sA hS rfl fun hS => qm <| qe <| sO hS (zU 0 rfl VS rfl rfl Tryz.isAgg3) rfl fun hS => sB hS rfl fun hS => sM hS rfl fun hS => sB hS rfl fun hS => qY (v := Value.int .i64) (x0 := (qi ((qi (VP - (1 : Int))) - VO))) hS (zE rfl) rfl fun VU a w hz hS => ?_
 have hM := qp hz hM; clear hz
 refine qm <| wp_ret ?_
 exact qP (rs := [3]) hS rfl rfl (hret VU _ (qG hM) (hS.st.pick [0] (by kernel_rfl)))
theorem vx {H : z7} {F : List qj} {w : World} {R : Ending → World → Prop} {kr : ((List UInt8) × Int) → Prop} {kp : Value → Prop} (hG : Gl H) (K : Nat) (VO : Int) (VQ : Int)
    (hS : St w H [] F) (hm : (xE.m K VO VQ).wp kr kp)
    (hret : ∀ (Uc : List UInt8) (Ud : Int) (w : World), kr (Uc, Ud) → St w H [] F → R (.returned (.tuple ⟨[qN Uc, .int .i64 Ud]⟩)) w) :
    Calls Tryz.prog 48 ⟨[.int .u64 VO, .int .i64 VQ, .bool true]⟩ w R := by
 refine enter Tryz.func48 rfl Tryz.ntmps48 rfl hS fun a w hS => ?_
 have hM := hm; clear hm
 rw [xE.m] at hM
 refine qe <| sA hS rfl fun hS => sA hS rfl fun hS => qm <| wp_seq <| qe <| sM hS rfl fun hS => qq hS rfl Tryz.call52 (um hG K VQ (hS.st.part 0 [] (by kernel_rfl)) (qh hM) (fun Uj w hM  hst => qn hS.ev hst.appF rfl fun hS => ?_))
 replace hS : Ss _ _ _ H [] F _ _ := hS
 refine sO hS (un rfl rfl) rfl fun hS => qm <| qo hS rfl hM (fun V6 hM => ?_) (fun V6 hM => ?_)
 ·refine wp_seq ?_
  refine zb <| sA hS rfl fun hS => sA hS rfl fun hS => qm <| wp_ret <| qu ?_
  exact qP (rs := [6, 7]) hS rfl rfl (hret ([] : List UInt8) (1 : Int) _ (qG hM) (hS.st.pick [] (by kernel_rfl)))
 ·refine wp_skip ?_
  refine qc <| wp_seq <| qe <| sM hS rfl fun hS => qq hS rfl Tryz.call65 (uI hG K VO (hS.st.part 0 [] (by kernel_rfl)) (qh hM) (fun Uk w hM  hst => qn hS.ev hst.appF rfl fun hS => ?_))
  replace hS : Ss _ _ _ H [] F _ _ := hS
  refine sM hS rfl fun hS => sB hS rfl fun hS => sB hS rfl fun hS => qm <| qo hS rfl hM (fun V7 hM => ?_) (fun V7 hM => ?_)
  ·refine wp_seq ?_
   refine zb <| sA hS rfl fun hS => sA hS rfl fun hS => qm <| wp_ret <| qu ?_
   exact qP (rs := [6, 7]) hS rfl rfl (hret ([] : List UInt8) (10 : Int) _ (qG hM) (hS.st.pick [] (by kernel_rfl)))
  ·refine wp_skip ?_
   refine qc <| qe <| sM hS rfl fun hS => sM hS rfl fun hS => qq hS rfl Tryz.call53 (vy hG K VQ (hS.st.part 0 [] (by kernel_rfl)) (qh hM) (fun VT VY w hM Ug hst => qn hS.ev hst.appF rfl fun hS => ?_))
   replace hS : Ss _ _ _ H [VY] F _ _ := hS
   refine sA hS rfl fun hS => qm <| qe <| sM hS rfl fun hS => ?_
   obtain ⟨V9, hM⟩ := qt hM
   refine Yn (g := (ci .u8)) (m := VQ) (0 : Int) hS rfl rfl (by simp) Tryz.runUnderlying44 X.el5 (fun w => ⟨_, Tryz.zeroValue5 w, rfl⟩) (fun _ => rfl) rfl rfl V9 rfl fun VV w VS VU Ue hz V4 hS => ?_
   have hM := qp hz hM; clear hz
   refine sA hS rfl fun hS => qm <| wp_seq <| qe <| sM hS rfl fun hS => sO hS (xw rfl Tryz.runUnderlying44) rfl fun hS => sM hS rfl fun hS => qm <| z3 <| q6 (fun Ub a w => ∃ (VR : (List Int)) (VZ : qj) (VP : Int), Ss 42 [] [(0, .int .u64 VO), (8, yH 71 [] [qx VT 0]), (9, .slice VS VR.length VU), (25, .int .i64 (VV.length : Int)), (26, .int .i64 VP)] H [VY, VZ] F a w ∧ (zM 5 (ci .u8) 1 VS VR VU VZ) ∧ (xE.l1 K VO VQ VV Ub VR VP).wp kr kp) K ?_ ?_ ?_
   ·exact ⟨VV, Ue, (0 : Int), hS.to [1, 0] (by kernel_rfl) ⟨rfl, rfl, rfl, rfl, rfl, trivial⟩, V4, hM⟩
   ·intro a w hI; obtain ⟨_, _, _, _, _, hM⟩ := hI; exact qX hM
   ·intro Ub a w hI Ui V3
    obtain ⟨VR, VZ, VP, hS, VX, hM⟩ := hI
    rw [xE.l1] at hM
    refine qe <| sB hS rfl fun hS => qm <| wp_seq <| qo hS rfl hM (fun V8 hM => ?_) (fun V8 hM => ?_)
    ·refine wp_skip ?_
     refine qc <| wp_seq <| z3 <| qe <| sM hS rfl fun hS => sA hS rfl fun hS => qL <| qc ?_
     obtain ⟨V0, hM⟩ := qt hM
     refine qM (vals := [some (.slice VS VR.length VU), some (yH 71 [] [qx VT 0]), some (.int .i64 VP), none, some (.int .u64 VO), some (.int .i64 VP), some (.int .i64 (qi ((8 : Int) * VP))), some (.int .u64 (zX .u64 VO (qi ((8 : Int) * VP)))), some (.int .u8 (wr .u8 (zX .u64 VO (qi ((8 : Int) * VP))))), none, none]) hS zV rfl ?_
     intro l w ho hcl hA hst
     refine x4 hA hst ho hcl zO zW 3 [0, 1, 2, 4, 5, 6, 7, 8] rfl rfl rfl rfl rfl (by exact ⟨nM rfl, nM rfl, nM rfl, nM rfl, nM rfl, nB rfl, nQ rfl (by exact qJ (shr rfl rfl V0) rfl), nQ rfl (by exact qJ (yT rfl Tryz.runUnderlying50 Tryz.runUnderlying5) rfl), trivial⟩) fun D l a w ho hcl hav hpre hm hE hk hA hst => ?_
     have hS := (Ss.mk hE hst).env2 (e' := [(30, yH 71 [] [qx VT 0]), (31, .int .i64 VP)]) ⟨rfl, rfl, trivial⟩
     refine qC rfl <| yY hS rfl rfl Tryz.call71 (j0 hG K VP VQ VT VY Ug (hS.st.part 1 [0, 1] (by kernel_rfl)) (qh hM) (fun VW w hM  hst => qn hS.ev hst.appF rfl fun hS => ?_))
     replace hS : Ss _ _ _ H [VY, VZ] F _ _ := hS
     refine qm ?_
     replace hst := hS.st
     obtain ⟨V1, hM⟩ := qt hM
     obtain ⟨hcl, hmust, hav2, hA⟩ := dn (vals' := [some (.slice VS VR.length VU), some (yH 71 [] [qx VT 0]), some (.int .i64 VP), some (.int .i64 VW), some (.int .u64 VO), some (.int .i64 VP), some (.int .i64 (qi ((8 : Int) * VP))), some (.int .u64 (zX .u64 VO (qi ((8 : Int) * VP)))), some (.int .u8 (wr .u8 (zX .u64 VO (qi ((8 : Int) * VP))))), some (z9 VS (Int.toNat VW * 1)), none]) 3 [(1, 3), (2, 3)] hA hcl hav hm hpre hk rfl rfl rfl rfl rfl rfl rfl
     clear hm hav
     refine x4 hA hst ho hcl hav2 hmust 10 [0, 4, 5, 6, 7, 8, 9] rfl rfl rfl rfl rfl (by exact ⟨nM rfl, nM rfl, nM rfl, nB rfl, nQ rfl (by exact qJ (shr rfl rfl V0) rfl), nQ rfl (by exact qJ (yT rfl Tryz.runUnderlying50 Tryz.runUnderlying5) rfl), nQ rfl (by exact qJ (xF rfl rfl Tryz.runUnderlying44 Tryz.sizeOf5 (VX.rd (i := 1) rfl) (fun _ => rfl) rfl V1) rfl), trivial⟩) fun D l a w ho hcl hav hpre hm hE hk hA hst => ?_
     have hS := (Ss.mk hE hst).env2 (e' := [(37, .int .u8 (wr .u8 (zX .u64 VO (qi ((8 : Int) * VP))))), (38, z9 VS (Int.toNat VW * 1))]) ⟨rfl, rfl, trivial⟩
     refine qC rfl <| QS (i := VW) (sz := 1) 1 0 ((wr .u8 (zX .u64 VO (qi ((8 : Int) * VP))))) hS rfl rfl VX rfl Tryz.sizeOf5 (jc (wr .u8 (zX .u64 VO (qi ((8 : Int) * VP))))) (fun _ => rfl) V1 rfl rfl fun V2 w Uf hz Ua V5 hS => ?_
     have hM := qp hz hM; clear hz
     refine qm ?_
     replace hst := hS.st
     obtain ⟨hcl, hmust, hav2, hA⟩ := Qt (vals' := [some (.slice VS VR.length VU), some (yH 71 [] [qx VT 0]), some (.int .i64 VP), some (.int .i64 VW), some (.int .u64 VO), some (.int .i64 VP), some (.int .i64 (qi ((8 : Int) * VP))), some (.int .u64 (zX .u64 VO (qi ((8 : Int) * VP)))), some (.int .u8 (wr .u8 (zX .u64 VO (qi ((8 : Int) * VP))))), some (z9 VS (Int.toNat VW * 1)), some undef]) 10 [(0, 10), (1, 10), (2, 10), (3, 10), (4, 10), (5, 10), (6, 10), (7, 10), (8, 10), (9, 10)] hA hcl hav hm hpre rfl rfl rfl rfl rfl
     clear hm hav
     refine xq hA hst ho hcl hmust [] rfl rfl rfl trivial fun a w hS => ?_
     replace hS := hS.env2 (e' := [(0, .int .u64 VO), (8, yH 71 [] [qx VT 0]), (9, .slice VS V2.length VU), (25, .int .i64 (VV.length : Int)), (26, .int .i64 VP)]) ⟨rfl, rfl, (Xa (u := .slice VS VR.length VU) rfl (by rw [Ua])), rfl, rfl, trivial⟩
     refine qW (qc ?_)
     refine zb <| sB hS rfl fun hS => sM hS rfl fun hS => qL <| qc ?_
     exact V3 _ _ ⟨V2, Uf, (qi (VP + (1 : Int))), hS.to [0, 1] (by kernel_rfl) ⟨rfl, rfl, rfl, rfl, rfl, trivial⟩, V5, hM⟩
    ·refine wp_exit ?_
     refine qv (qv (qO (qc ?_)))
     refine qe <| sM hS rfl fun hS => sO hS (XZ rfl Tryz.runUnderlying44 Tryz.runUnderlying5 Tryz.runUnderlying9 (VX.rd (i := 1) rfl)) rfl fun hS => qY (v := qN) (x0 := (VR.map jo)) hS (zE rfl) rfl fun Uh a w hz hS => ?_
     have hM := qp hz hM; clear hz
     refine sA hS rfl fun hS => qm <| wp_ret ?_
     exact qP (rs := [6, 7]) hS rfl rfl (hret Uh (0 : Int) _ (qG hM) (hS.st.pick [] (by kernel_rfl)))
theorem yv {H : z7} {F : List qj} {w : World} {R : Ending → World → Prop} {kr : (List UInt8) → Prop} {kp : Value → Prop} (hG : Gl H) (K : Nat) (VO : Int)
    (hS : St w H [] F) (hm : (jm.m K VO).wp kr kp)
    (hret : ∀ (VP : List UInt8) (w : World), kr VP → St w H [] F → R (.returned (qN VP)) w) :
    Calls Tryz.prog 33 ⟨[.int .u64 VO]⟩ w R := by
 refine enter Tryz.func33 rfl Tryz.ntmps33 rfl hS fun a w hS => ?_
 have hM := hm; clear hm
 rw [jm.m] at hM
 refine qe <| sA hS rfl fun hS => qm <| qe <| sM hS rfl fun hS => qq hS rfl Tryz.call48 (vx hG K VO (4 : Int) (hS.st.part 0 [] (by kernel_rfl)) (qh hM) (fun VQ VR w hM  hst => qn hS.ev hst.appF rfl fun hS => ?_))
 replace hS : Ss _ _ _ H [] F _ _ := hS
 refine sM hS rfl fun hS => sO hS (ex rfl rfl) rfl fun hS => sO hS (ex rfl rfl) rfl fun hS => sA hS rfl fun hS => sA hS rfl fun hS => qm <| qe <| sM hS rfl fun hS => sA hS rfl fun hS => qm <| wp_ret ?_
 exact qP (rs := [2]) hS rfl rfl (hret VQ _ (qG hM) (hS.st.pick [] (by kernel_rfl)))
theorem yh {H : z7} {F : List qj} {w : World} {R : Ending → World → Prop} {kr : (List UInt8) → Prop} {kp : Value → Prop} (hG : Gl H) (K : Nat) (VO : (List Int)) (VP : Nat) (VX : qj) (V1 : QT 61 5 VP VO VX)
    (hS : St w H [VX] F) (hm : (xD.m K VO).wp kr kp)
    (hret : ∀ (V3 : List UInt8) (VZ : qj) (w : World), kr V3 → (Jt 61 VP VO VZ) → St w H [VZ] F → R (.returned (qN V3)) w) :
    Calls Tryz.prog 35 ⟨[qx VP 0]⟩ w R := by
 refine enter Tryz.func35 rfl Tryz.ntmps35 rfl hS fun a w hS => ?_
 have hM := hm; clear hm
 rw [xD.m] at hM
 obtain ⟨V5, VQ, VR, VY, V6, V4, VS, VT, rfl⟩ := V1
 replace hS := hS.split
 refine qe <| sA hS rfl fun hS => qm <| wp_seq <| qM (vals := [some (qx VP 0), some (qx VP 0), some (qx VP 1), some (.slice VQ VO.length VR), none, some (qx VP 0), some (qx VP 0), some (qx VP 1), some (.slice VQ VO.length VR), some (.int .i64 (VO.length : Int)), none, none]) hS zV rfl ?_
 intro l w ho hcl hA hst
 refine x4 hA hst ho hcl zO zW 4 [0, 1, 2, 3, 5, 6, 7, 8, 9] rfl rfl rfl rfl rfl (by exact ⟨nM rfl, nQ rfl (by exact qJ (xM rfl) rfl), nQ rfl (by exact qJ (zz rfl Tryz.runUnderlying61 rfl Tryz.sizeOf44 rfl) rfl), nQ rfl (by exact qJ (zU 0 rfl VS rfl rfl Tryz.isAgg44) rfl), nM rfl, nQ rfl (by exact qJ (xM rfl) rfl), nQ rfl (by exact qJ (zz rfl Tryz.runUnderlying61 rfl Tryz.sizeOf44 rfl) rfl), nQ rfl (by exact qJ (zU 0 rfl VS rfl rfl Tryz.isAgg44) rfl), nQ rfl (by exact qJ (xw rfl Tryz.runUnderlying44) rfl), trivial⟩) fun D l a w ho hcl hav hpre hm hE hk hA hst => ?_
 have hS := (Ss.mk hE hst).env2 (e' := [(6, .slice VQ VO.length VR)]) ⟨rfl, trivial⟩
 refine qC rfl <| VK 1 hS rfl VT rfl Tryz.underlying86 rfl fun VV w V0 hS => qm ?_
 replace hst := hS.st
 obtain ⟨hcl, hmust, hav2, hA⟩ := dn (vals' := [some (qx VP 0), some (qx VP 0), some (qx VP 1), some (.slice VQ VO.length VR), some (.pointer VV), some (qx VP 0), some (qx VP 0), some (qx VP 1), some (.slice VQ VO.length VR), some (.int .i64 (VO.length : Int)), none, none]) 4 [(3, 4), (2, 3), (1, 2), (0, 1)] hA hcl hav hm hpre hk rfl rfl rfl rfl rfl rfl rfl
 clear hm hav
 refine x4 hA hst ho hcl hav2 hmust 10 [5, 6, 7, 8, 9] rfl rfl rfl rfl rfl (by exact ⟨nM rfl, nQ rfl (by exact qJ (xM rfl) rfl), nQ rfl (by exact qJ (zz rfl Tryz.runUnderlying61 rfl Tryz.sizeOf44 rfl) rfl), nQ rfl (by exact qJ (zU 0 rfl VS rfl rfl Tryz.isAgg44) rfl), nQ rfl (by exact qJ (xw rfl Tryz.runUnderlying44) rfl), trivial⟩) fun D l a w ho hcl hav hpre hm hE hk hA hst => ?_
 have hS := (Ss.mk hE hst).env2 (e' := [(7, .pointer VV), (12, .int .i64 (VO.length : Int))]) ⟨rfl, rfl, trivial⟩
 refine qC rfl <| VL 1 hS rfl rfl V0 VT rfl Tryz.underlying86 (by kernel_rfl) rfl fun w V7 hS => qm ?_
 replace hst := hS.st
 obtain ⟨VW, VU⟩ : ∃ x, x = (VO.map jo) := ⟨_, rfl⟩
 replace hM := qp VU hM
 obtain ⟨hcl, hmust, hav2, hA⟩ := dn (vals' := [some (qx VP 0), some (qx VP 0), some (qx VP 1), some (.slice VQ VO.length VR), some (.pointer VV), some (qx VP 0), some (qx VP 0), some (qx VP 1), some (.slice VQ VO.length VR), some (.int .i64 (VO.length : Int)), some (qN (VO.map jo)), some (qN VW)]) 10 [(4, 10), (9, 10), (3, 4), (8, 9), (2, 3), (7, 8), (1, 2), (6, 7), (0, 1), (5, 6)] hA hcl hav hm hpre hk rfl rfl rfl rfl rfl rfl rfl
 clear hm hav
 refine xq hA hst ho hcl hmust [11] rfl rfl rfl (by exact ⟨nQ rfl (by exact qJ (zE rfl) (congrArg (qN) VU.symm)), trivial⟩) fun a w hS => ?_
 replace hS := hS.env2 (e' := [(2, qN VW)]) ⟨rfl, trivial⟩
 refine qc <| wp_ret ?_
 have V2 : Jt 61 VP VO VY := ⟨_, _, _, VS⟩
 exact qP (rs := [2]) hS rfl rfl (hret VW VY _ (qG hM) V2 (hS.st.pick [0] (by kernel_rfl)))
theorem u9 {H : z7} {F : List qj} {w : World} {R : Ending → World → Prop} {kr : Int → Prop} {kp : Value → Prop} (hG : Gl H) (K : Nat) (VQ : Int) (V4 : List UInt8)
    (hS : St w H [] F) (hm : (zp.m K VQ V4).wp kr kp)
    (hret : ∀ (Ui : Int) (w : World), kr Ui → St w H [] F → R (.returned (.int .u32 Ui)) w) :
    Calls Tryz.prog 66 ⟨[.int .u32 VQ, qN V4]⟩ w R := by
 refine enter Tryz.func66 rfl Tryz.ntmps66 rfl hS fun a w hS => ?_
 have hM := hm; clear hm
 rw [zp.m] at hM
 refine qe <| sA hS rfl fun hS => qm <| qe <| sM hS rfl fun hS => sB hS rfl fun hS => sO hS (rem rfl rfl rfl) rfl fun hS => sM hS rfl fun hS => sO hS (shr rfl rfl rfl) rfl fun hS => sO hS (rem rfl rfl rfl) rfl fun hS => qY (v := Value.int .u32) (x0 := (vd (xi .u32 VQ (65535 : Int)) (65521 : Int))) hS (zE rfl) rfl fun Uk a w hz hS => ?_
 have hM := qp hz hM; clear hz
 refine qY (v := Value.int .u32) (x0 := (vd (zX .u32 VQ (16 : Int)) (65521 : Int))) hS (zE rfl) rfl fun Ul a w hz hS => ?_
 have hM := qp hz hM; clear hz
 refine qm <| qV (fun a w => ∃ (VZ : Int) (V0 : Int), Ss 46 [] [(5, .int .u32 VZ), (6, .int .u32 V0)] H [] F a w ∧ (zp.j4 K VZ V0).wp kr kp) (fun Uq Ub => ?_) ?_
 ·refine z3 ?_
  refine q6 (fun VY a w => ∃ (VO : List UInt8) (VU : Int) (VW : Int), Ss 46 [] [(1, qN VO), (5, .int .u32 VU), (6, .int .u32 VW)] H [] F a w ∧ (zp.l1 K VY VO VU VW).wp kr kp) K ?_ ?_ ?_
  ·exact ⟨V4, Uk, Ul, hS.to [] (by kernel_rfl) ⟨rfl, rfl, rfl, trivial⟩, hM⟩
  ·intro a w hI; obtain ⟨_, _, _, _, hM⟩ := hI; exact qX hM
  ·intro VY a w hI Up Ua
   obtain ⟨VO, VU, VW, hS, hM⟩ := hI
   rw [zp.l1] at hM
   refine wp_seq <| qe <| sM hS rfl fun hS => sO hS (ye rfl Tryz.runUnderlying9) rfl fun hS => sB hS rfl fun hS => qm <| qo hS rfl hM (fun Uc hM => ?_) (fun Uc hM => ?_)
   ·refine wp_skip ?_
    refine qc <| z3 <| qe <| sM hS rfl fun hS => sO hS (ye rfl Tryz.runUnderlying9) rfl fun hS => sO hS (Xq rfl rfl) rfl fun hS => qY (v := Value.int .i64) (x0 := (if (VO.length : Int) < (5000 : Int) then (VO.length : Int) else (5000 : Int))) hS (zE rfl) rfl fun VP a w hz hS => ?_
    have hM := qp hz hM; clear hz
    refine qm <| qV (fun a w => ∃ (VR : Int) (VS : Int), Ss 46 [] [(1, qN VO), (5, .int .u32 VR), (6, .int .u32 VS), (7, .int .i64 VP)] H [] F a w ∧ (zp.j3 K (zp.l1 K VY) VO VP VR VS).wp kr kp) (fun Uo V9 => ?_) ?_
    ·refine wp_seq ?_
     refine zb <| sM hS rfl fun hS => sM hS rfl fun hS => qm <| z3 <| q6 (fun Ug a w => ∃ (VV : Int) (VX : Int) (VT : Int), Ss 46 [] [(1, qN VO), (5, .int .u32 VV), (6, .int .u32 VX), (7, .int .i64 VP), (21, .int .i64 VP), (22, .int .i64 VT)] H [] F a w ∧ (zp.l2 K (zp.l1 K VY) VO VP Ug VV VX VT).wp kr kp) K ?_ ?_ ?_
     ·exact ⟨VU, VW, (0 : Int), hS.to [] (by kernel_rfl) ⟨rfl, rfl, rfl, rfl, rfl, rfl, trivial⟩, hM⟩
     ·intro a w hI; obtain ⟨_, _, _, _, hM⟩ := hI; exact qX hM
     ·intro Ug a w hI Un V8
      obtain ⟨VV, VX, VT, hS, hM⟩ := hI
      rw [zp.l2] at hM
      refine qe <| sB hS rfl fun hS => qm <| wp_seq <| qo hS rfl hM (fun Ud hM => ?_) (fun Ud hM => ?_)
      ·refine wp_skip ?_
       refine qc <| wp_seq <| z3 <| qe <| sM hS rfl fun hS => sA hS rfl fun hS => qm <| qe <| sM hS rfl fun hS => sM hS rfl fun hS => sM hS rfl fun hS => ?_
       obtain ⟨Ue, hM⟩ := qt hM
       refine sO hS (u1 rfl rfl Tryz.runUnderlying9 Ue) rfl fun hS => sO hS (yT rfl Tryz.runUnderlying5 Tryz.runUnderlying56) rfl fun hS => sB hS rfl fun hS => qY (v := Value.int .u32) (x0 := (wr .u32 (VV + (wr .u32 ((rd VO VT).toNat : Int))))) hS (zE rfl) rfl fun Uh a w hz hS => ?_
       have hM := qp hz hM; clear hz
       refine qm <| zb <| sM hS rfl fun hS => sM hS rfl fun hS => sB hS rfl fun hS => qY (v := Value.int .u32) (x0 := (wr .u32 (VX + Uh))) hS (zE rfl) rfl fun Um a w hz hS => ?_
       have hM := qp hz hM; clear hz
       refine qL <| qW (qc ?_)
       refine zb <| sB hS rfl fun hS => sM hS rfl fun hS => qL <| qc ?_
       exact V8 _ _ ⟨Uh, Um, (qi (VT + (1 : Int))), hS.to [] (by kernel_rfl) ⟨rfl, rfl, rfl, rfl, rfl, rfl, trivial⟩, hM⟩
      ·refine wp_exit ?_
       refine qv (qv (qO (qc ?_)))
       exact V9 _ _ ⟨VV, VX, hS.to [] (by kernel_rfl) ⟨rfl, rfl, rfl, rfl, trivial⟩, hM⟩
    ·intro a w hI
     obtain ⟨VR, VS, hS, hM⟩ := hI
     rw [zp.j3] at hM
     obtain ⟨Uf, hM⟩ := qt hM
     obtain ⟨V6, V1⟩ : ∃ x, x = (vd VR (65521 : Int)) := ⟨_, rfl⟩
     replace hM := qp V1 hM
     obtain ⟨V7, V2⟩ : ∃ x, x = (vd VS (65521 : Int)) := ⟨_, rfl⟩
     replace hM := qp V2 hM
     obtain ⟨V5, V3⟩ : ∃ x, x = (sub VO VP (VO.length : Int)) := ⟨_, rfl⟩
     replace hM := qp V3 hM
     refine qM (vals := [some (.int .u32 VR), some (.int .u32 (vd VR (65521 : Int))), some (.int .u32 VS), some (.int .u32 (vd VS (65521 : Int))), some (qN VO), some (.int .i64 VP), some (qN (sub VO VP (VO.length : Int))), some (.int .u32 V6), some (.int .u32 V7), some (qN V5)]) hS zV rfl ?_
     intro l w ho hcl hA hst
     refine xq hA hst ho hcl zW [0, 1, 2, 3, 4, 5, 6, 7, 8, 9] rfl rfl rfl (by exact ⟨nM rfl, nQ rfl (by exact qJ (rem rfl rfl rfl) rfl), nM rfl, nQ rfl (by exact qJ (rem rfl rfl rfl) rfl), nM rfl, nM rfl, nQ rfl (by exact qJ (Xj rfl Tryz.runUnderlying9 (XI rfl) Yy Uf) rfl), nQ rfl (by exact qJ (zE rfl) (congrArg (Value.int .u32) V1.symm)), nQ rfl (by exact qJ (zE rfl) (congrArg (Value.int .u32) V2.symm)), nQ rfl (by exact qJ (zE rfl) (congrArg (qN) V3.symm)), trivial⟩) fun a w hS => ?_
     replace hS := hS.env2 (e' := [(1, qN V5), (5, .int .u32 V6), (6, .int .u32 V7)]) ⟨rfl, rfl, rfl, trivial⟩
     refine qW (qc ?_)
     exact Ua _ _ ⟨V5, V6, V7, hS.to [] (by kernel_rfl) ⟨rfl, rfl, rfl, trivial⟩, hM⟩
   ·refine wp_exit ?_
    refine qv (qv (qO (qc ?_)))
    exact Ub _ _ ⟨VU, VW, hS.to [] (by kernel_rfl) ⟨rfl, rfl, trivial⟩, hM⟩
 ·intro a w hI
  obtain ⟨VZ, V0, hS, hM⟩ := hI
  rw [zp.j4] at hM
  refine qe <| sM hS rfl fun hS => sO hS (shl rfl rfl rfl) rfl fun hS => sM hS rfl fun hS => sB hS rfl fun hS => qY (v := Value.int .u32) (x0 := (uk .u32 (z1 .u32 V0 (16 : Int)) VZ)) hS (zE rfl) rfl fun Uj a w hz hS => ?_
  have hM := qp hz hM; clear hz
  refine qm <| wp_ret ?_
  exact qP (rs := [4]) hS rfl rfl (hret Uj _ (qG hM) (hS.st.pick [] (by kernel_rfl)))
theorem uQ {H : z7} {F : List qj} {w : World} {R : Ending → World → Prop} {kr : Int → Prop} {kp : Value → Prop} (hG : Gl H) (K : Nat) (VO : List UInt8)
    (hS : St w H [] F) (hm : (vG.m K VO).wp kr kp)
    (hret : ∀ (VP : Int) (w : World), kr VP → St w H [] F → R (.returned (.int .u32 VP)) w) :
    Calls Tryz.prog 49 ⟨[qN VO]⟩ w R := by
 refine enter Tryz.func49 rfl Tryz.ntmps49 rfl hS fun a w hS => ?_
 have hM := hm; clear hm
 rw [vG.m] at hM
 refine qe <| sA hS rfl fun hS => qm <| qe <| sM hS rfl fun hS => qq hS rfl Tryz.call66 (u9 hG K (1 : Int) VO (hS.st.part 0 [] (by kernel_rfl)) (qh hM) (fun VQ w hM  hst => qn hS.ev hst.appF rfl fun hS => ?_))
 replace hS : Ss _ _ _ H [] F _ _ := hS
 refine sA hS rfl fun hS => qm <| wp_ret ?_
 exact qP (rs := [2]) hS rfl rfl (hret VQ _ (qG hM) (hS.st.pick [] (by kernel_rfl)))
theorem vh {H : z7} {F : List qj} {w : World} {R : Ending → World → Prop} {kr : Unit → Prop} {kp : Value → Prop} (hG : Gl H) (K : Nat) (VO : z2) (VP : Int) (VQ : Nat) (VU : qj) (VW : Nat) (VV : qj) (VR : xf VU VQ ([qN VO.text_, .map (some VW)]) 117) (V2 : Qv (X0 .u8) (X2 3) 3 (ci .i64) 1 VW VO.seen_ VV)
    (hS : St w H [VU, VV] F) (hm : (yX.m K VO VP).wp kr kp)
    (hret : ∀ (w : World), kr () → St w H [VU, VV] F → R (.returned (.agg ⟨([((rd VO.text_ VP).toNat : Int), ((rd VO.text_ (qi (VP + (1 : Int)))).toNat : Int), ((rd VO.text_ (qi (VP + (2 : Int)))).toNat : Int)] : List Int).flatMap (ci .u8)⟩)) w) :
    Calls Tryz.prog 107 ⟨[qx VQ 0, .int .i64 VP]⟩ w R := by
 refine enter Tryz.func107 rfl Tryz.ntmps107 rfl hS fun a w hS => ?_
 have hM := hm; clear hm
 rw [yX.m] at hM
 refine qe <| jz ((List.replicate 3 (0 : Int)).flatMap (ci .u8)) hS Tryz.zeroValue168 rfl rfl fun w VT V3 VX hS => qm <| wp_seq ?_
 obtain ⟨VY, hM⟩ := qt hM
 obtain ⟨VZ, hM⟩ := qt hM
 obtain ⟨V0, hM⟩ := qt hM
 refine qM (vals := [some (qx VQ 0), some (qx VQ 0), some (qx VQ 0), some (qN VO.text_), some (.int .i64 VP), some (.int .u8 ((rd VO.text_ VP).toNat : Int)), some (qx VQ 0), some (qx VQ 0), some (qx VQ 0), some (qN VO.text_), some (.int .i64 VP), some (.int .i64 (qi (VP + (1 : Int)))), some (.int .u8 ((rd VO.text_ (qi (VP + (1 : Int)))).toNat : Int)), some (qx VQ 0), some (qx VQ 0), some (qx VQ 0), some (qN VO.text_), some (.int .i64 VP), some (.int .i64 (qi (VP + (2 : Int)))), some (.int .u8 ((rd VO.text_ (qi (VP + (2 : Int)))).toNat : Int)), some (.agg ⟨([((rd VO.text_ VP).toNat : Int), ((rd VO.text_ (qi (VP + (1 : Int)))).toNat : Int), ((rd VO.text_ (qi (VP + (2 : Int)))).toNat : Int)] : List Int).flatMap (ci .u8)⟩), none]) hS zV rfl ?_
 intro l w ho hcl hA hst
 refine x4 hA hst ho hcl zO zW 21 [0, 1, 2, 3, 4, 5, 6, 7, 8, 9, 10, 11, 12, 13, 14, 15, 16, 17, 18, 19, 20] rfl rfl rfl rfl rfl (by exact ⟨nM rfl, nQ rfl (by exact qJ (xM rfl) rfl), nQ rfl (by exact qJ (zz rfl Tryz.runUnderlying117 rfl Tryz.sizeOf9 rfl) rfl), nQ rfl (by exact qJ (zU 1 rfl VR rfl rfl Tryz.isAgg9) rfl), nM rfl, nQ rfl (by exact qJ (u1 rfl rfl Tryz.runUnderlying9 VY) rfl), nM rfl, nQ rfl (by exact qJ (xM rfl) rfl), nQ rfl (by exact qJ (zz rfl Tryz.runUnderlying117 rfl Tryz.sizeOf9 rfl) rfl), nQ rfl (by exact qJ (zU 1 rfl VR rfl rfl Tryz.isAgg9) rfl), nM rfl, nB rfl, nQ rfl (by exact qJ (u1 rfl rfl Tryz.runUnderlying9 VZ) rfl), nM rfl, nQ rfl (by exact qJ (xM rfl) rfl), nQ rfl (by exact qJ (zz rfl Tryz.runUnderlying117 rfl Tryz.sizeOf9 rfl) rfl), nQ rfl (by exact qJ (zU 1 rfl VR rfl rfl Tryz.isAgg9) rfl), nM rfl, nB rfl, nQ rfl (by exact qJ (u1 rfl rfl Tryz.runUnderlying9 V0) rfl), nQ rfl (by exact qJ (X5 (([((rd VO.text_ VP).toNat : Int), ((rd VO.text_ (qi (VP + (1 : Int)))).toNat : Int), ((rd VO.text_ (qi (VP + (2 : Int)))).toNat : Int)] : List Int).flatMap (ci .u8)) Tryz.zeroValue168 Tryz.runUnderlying168 Tryz.sizeOf5 rfl (by kernel_rfl)) rfl), trivial⟩) fun D l a w ho hcl hav hpre hm hE hk hA hst => ?_
 have hS := (Ss.mk hE hst).env2 (e' := [(4, qx VT 0), (25, .agg ⟨([((rd VO.text_ VP).toNat : Int), ((rd VO.text_ (qi (VP + (1 : Int)))).toNat : Int), ((rd VO.text_ (qi (VP + (2 : Int)))).toNat : Int)] : List Int).flatMap (ci .u8)⟩)]) ⟨rfl, rfl, trivial⟩
 refine qC rfl <| QZ (xs := (List.replicate 3 (0 : Int))) (ys := ([((rd VO.text_ VP).toNat : Int), ((rd VO.text_ (qi (VP + (1 : Int)))).toNat : Int), ((rd VO.text_ (qi (VP + (2 : Int)))).toNat : Int)] : List Int)) (g := (ci .u8)) (pre := []) (post := []) 0 hS rfl rfl VX rfl (by simp) rfl (zP (g := (ci .u8)) (sz := 1) (fun _ => rfl) (List.length_replicate ..)) (zP (g := (ci .u8)) (sz := 1) (fun _ => rfl) rfl) (jc) Tryz.sizeOf168 fun w V1 VS hS => ?_
 replace VS : xf V1 VT (([((rd VO.text_ VP).toNat : Int), ((rd VO.text_ (qi (VP + (1 : Int)))).toNat : Int), ((rd VO.text_ (qi (VP + (2 : Int)))).toNat : Int)] : List Int).flatMap (ci .u8)) 168 := by simpa using VS
 refine qm ?_
 replace hst := hS.st
 obtain ⟨hcl, hmust, hav2, hA⟩ := Qt (vals' := [some (qx VQ 0), some (qx VQ 0), some (qx VQ 0), some (qN VO.text_), some (.int .i64 VP), some (.int .u8 ((rd VO.text_ VP).toNat : Int)), some (qx VQ 0), some (qx VQ 0), some (qx VQ 0), some (qN VO.text_), some (.int .i64 VP), some (.int .i64 (qi (VP + (1 : Int)))), some (.int .u8 ((rd VO.text_ (qi (VP + (1 : Int)))).toNat : Int)), some (qx VQ 0), some (qx VQ 0), some (qx VQ 0), some (qN VO.text_), some (.int .i64 VP), some (.int .i64 (qi (VP + (2 : Int)))), some (.int .u8 ((rd VO.text_ (qi (VP + (2 : Int)))).toNat : Int)), some (.agg ⟨([((rd VO.text_ VP).toNat : Int), ((rd VO.text_ (qi (VP + (1 : Int)))).toNat : Int), ((rd VO.text_ (qi (VP + (2 : Int)))).toNat : Int)] : List Int).flatMap (ci .u8)⟩), some undef]) 21 [(0, 21), (1, 21), (2, 21), (3, 21), (4, 21), (5, 21), (6, 21), (7, 21), (8, 21), (9, 21), (10, 21), (11, 21), (12, 21), (13, 21), (14, 21), (15, 21), (16, 21), (17, 21), (18, 21), (19, 21), (20, 21)] hA hcl hav hm hpre rfl rfl rfl rfl rfl
 clear hm hav
 refine xq hA hst ho hcl hmust [] rfl rfl rfl trivial fun a w hS => ?_
 replace hS := hS.env2 (e' := [(4, qx VT 0)]) ⟨rfl, trivial⟩
 refine qc <| wp_ret ?_
 exact xI (vs := [.agg ⟨([((rd VO.text_ VP).toNat : Int), ((rd VO.text_ (qi (VP + (1 : Int)))).toNat : Int), ((rd VO.text_ (qi (VP + (2 : Int)))).toNat : Int)] : List Int).flatMap (ci .u8)⟩]) hS rfl (by exact ⟨JB 0 rfl VS rfl (zP (g := (ci .u8)) (sz := 1) (fun _ => rfl) rfl) Tryz.isAgg168 Tryz.sizeOf168, trivial⟩) (hret _ (qG hM) (hS.st.pick [1, 2] (by kernel_rfl)))
theorem uc {H : z7} {F : List qj} {w : World} {R : Ending → World → Prop} {kr : Int → Prop} {kp : Value → Prop} (hG : Gl H) (K : Nat) (VP : z2) (VR : Int) (VQ : Int) (VS : Nat) (VV : qj) (V1 : Nat) (VW : qj) (VT : xf VV VS ([qN VP.text_, .map (some V1)]) 117) (V8 : Qv (X0 .u8) (X2 3) 3 (ci .i64) 1 V1 VP.seen_ VW)
    (hS : St w H [VV, VW] F) (hm : (zv.m K VP VR VQ).wp kr kp)
    (hret : ∀ (V7 : Int) (w : World), kr V7 → St w H [VV, VW] F → R (.returned (.int .i64 V7)) w) :
    Calls Tryz.prog 108 ⟨[qx VS 0, .int .i64 VR, .int .i64 VQ]⟩ w R := by
 refine enter Tryz.func108 rfl Tryz.ntmps108 rfl hS fun a w hS => ?_
 have hM := hm; clear hm
 rw [zv.m] at hM
 refine qe <| sA hS rfl fun hS => qm <| qe <| sA hS rfl fun hS => qm <| wp_seq <| z3 <| q6 (fun VZ a w => ∃ (VO : Int), Ss 43 [] [(0, qx VS 0), (1, .int .i64 VR), (2, .int .i64 VQ), (7, .int .i64 VO)] H [VV, VW] F a w ∧ (zv.l1 K VP VR VQ VZ VO).wp kr kp) K ?_ ?_ ?_
 ·exact ⟨(0 : Int), hS.to [0, 1] (by kernel_rfl) ⟨rfl, rfl, rfl, rfl, trivial⟩, hM⟩
 ·intro a w hI; obtain ⟨_, _, hM⟩ := hI; exact qX hM
 ·intro VZ a w hI Ua V2
  obtain ⟨VO, hS, hM⟩ := hI
  rw [zv.l1] at hM
  refine wp_seq <| qV (fun a w => ∃ (V0 : Bool), Ss 43 [] [(0, qx VS 0), (1, .int .i64 VR), (2, .int .i64 VQ), (7, .int .i64 VO), (39, .bool V0)] H [VV, VW] F a w ∧ (zv.j2 K (zv.l1 K VP VR VQ VZ) VO V0).wp kr kp) (fun V9 VX => ?_) ?_
  ·refine Xi (b := (decide (VO < (258 : Int)))) hM (fun VU hM => ?_) (fun VU hM => ?_)
   ·refine Xi (b := (decide ((qi (VQ + VO)) < (VP.text_.length : Int)))) hM (fun VY hM => ?_) (fun VY hM => ?_)
    ·obtain ⟨V4, hM⟩ := qt hM
     obtain ⟨V5, hM⟩ := qt hM
     refine qM (vals := [some (.int .i64 VO), some (.bool true), some (.bool true), some (.int .i64 VQ), some (.int .i64 VO), some (.int .i64 (qi (VQ + VO))), some (qx VS 0), some (qx VS 0), some (qx VS 0), some (qN VP.text_), some (.int .i64 (VP.text_.length : Int)), some (.bool true), some (.bool true), some (.bool true), some (qx VS 0), some (qx VS 0), some (qx VS 0), some (qN VP.text_), some (.int .i64 VR), some (.int .i64 VO), some (.int .i64 (qi (VR + VO))), some (.int .u8 ((rd VP.text_ (qi (VR + VO))).toNat : Int)), some (qx VS 0), some (qx VS 0), some (qx VS 0), some (qN VP.text_), some (.int .i64 VQ), some (.int .i64 VO), some (.int .i64 (qi (VQ + VO))), some (.int .u8 ((rd VP.text_ (qi (VQ + VO))).toNat : Int)), some (.bool (((rd VP.text_ (qi (VR + VO))).toNat : Int) == ((rd VP.text_ (qi (VQ + VO))).toNat : Int))), some (.bool (((rd VP.text_ (qi (VR + VO))).toNat : Int) == ((rd VP.text_ (qi (VQ + VO))).toNat : Int)))]) hS zV rfl ?_
     intro l w ho hcl hA hst
     refine xq hA hst ho hcl zW [0, 1, 2, 3, 4, 5, 6, 7, 8, 9, 10, 11, 12, 13, 14, 15, 16, 17, 18, 19, 20, 21, 22, 23, 24, 25, 26, 27, 28, 29, 30, 31] rfl rfl rfl (by exact ⟨nM rfl, nQ rfl (by exact qJ (xN rfl rfl rfl) (congrArg Value.bool VU)), nM rfl, nW rfl rfl rfl rfl rfl rfl rfl rfl (by exact qJ (mv rfl) rfl), nW rfl rfl rfl rfl rfl rfl rfl rfl (by exact qJ (mv rfl) rfl), nW rfl rfl rfl rfl rfl rfl rfl rfl (by exact qJ (xN rfl rfl rfl) rfl), nW rfl rfl rfl rfl rfl rfl rfl rfl (by exact qJ (mv rfl) rfl), nW rfl rfl rfl rfl rfl rfl rfl rfl (by exact qJ (xM rfl) rfl), nW rfl rfl rfl rfl rfl rfl rfl rfl (by exact qJ (zz rfl Tryz.runUnderlying117 rfl Tryz.sizeOf9 rfl) rfl), nW rfl rfl rfl rfl rfl rfl rfl rfl (by exact qJ (zU 0 rfl VT rfl rfl Tryz.isAgg9) rfl), nW rfl rfl rfl rfl rfl rfl rfl rfl (by exact qJ (ye rfl Tryz.runUnderlying9) rfl), nW rfl rfl rfl rfl rfl rfl rfl rfl (by exact qJ (xN rfl rfl rfl) (congrArg Value.bool VY)), nQ rfl (by exact qJ (pk rfl rfl rfl) rfl), nM rfl, nW rfl rfl rfl rfl rfl rfl rfl rfl (by exact qJ (mv rfl) rfl), nW rfl rfl rfl rfl rfl rfl rfl rfl (by exact qJ (xM rfl) rfl), nW rfl rfl rfl rfl rfl rfl rfl rfl (by exact qJ (zz rfl Tryz.runUnderlying117 rfl Tryz.sizeOf9 rfl) rfl), nW rfl rfl rfl rfl rfl rfl rfl rfl (by exact qJ (zU 0 rfl VT rfl rfl Tryz.isAgg9) rfl), nW rfl rfl rfl rfl rfl rfl rfl rfl (by exact qJ (mv rfl) rfl), nW rfl rfl rfl rfl rfl rfl rfl rfl (by exact qJ (mv rfl) rfl), nW rfl rfl rfl rfl rfl rfl rfl rfl (by exact qJ (xN rfl rfl rfl) rfl), nW rfl rfl rfl rfl rfl rfl rfl rfl (by exact qJ (u1 rfl rfl Tryz.runUnderlying9 V4) rfl), nW rfl rfl rfl rfl rfl rfl rfl rfl (by exact qJ (mv rfl) rfl), nW rfl rfl rfl rfl rfl rfl rfl rfl (by exact qJ (xM rfl) rfl), nW rfl rfl rfl rfl rfl rfl rfl rfl (by exact qJ (zz rfl Tryz.runUnderlying117 rfl Tryz.sizeOf9 rfl) rfl), nW rfl rfl rfl rfl rfl rfl rfl rfl (by exact qJ (zU 0 rfl VT rfl rfl Tryz.isAgg9) rfl), nW rfl rfl rfl rfl rfl rfl rfl rfl (by exact qJ (mv rfl) rfl), nW rfl rfl rfl rfl rfl rfl rfl rfl (by exact qJ (mv rfl) rfl), nW rfl rfl rfl rfl rfl rfl rfl rfl (by exact qJ (xN rfl rfl rfl) rfl), nW rfl rfl rfl rfl rfl rfl rfl rfl (by exact qJ (u1 rfl rfl Tryz.runUnderlying9 V5) rfl), nW rfl rfl rfl rfl rfl rfl rfl rfl (by exact qJ (xN rfl rfl rfl) rfl), nQ rfl (by exact qJ (pk rfl rfl rfl) rfl), trivial⟩) fun a w hS => ?_
     replace hS := hS.env2 (e' := [(0, qx VS 0), (1, .int .i64 VR), (2, .int .i64 VQ), (7, .int .i64 VO), (39, .bool (((rd VP.text_ (qi (VR + VO))).toNat : Int) == ((rd VP.text_ (qi (VQ + VO))).toNat : Int)))]) ⟨rfl, rfl, rfl, rfl, rfl, trivial⟩
     refine qc ?_
     exact VX _ _ ⟨(((rd VP.text_ (qi (VR + VO))).toNat : Int) == ((rd VP.text_ (qi (VQ + VO))).toNat : Int)), hS.to [0, 1] (by kernel_rfl) ⟨rfl, rfl, rfl, rfl, rfl, trivial⟩, hM⟩
    ·refine qM (vals := [some (.int .i64 VO), some (.bool true), some (.bool true), some (.int .i64 VQ), some (.int .i64 VO), some (.int .i64 (qi (VQ + VO))), some (qx VS 0), some (qx VS 0), some (qx VS 0), some (qN VP.text_), some (.int .i64 (VP.text_.length : Int)), some (.bool false), some (.bool false), some (.bool false), some (undef), some (undef), some (undef), some (undef), some (undef), some (undef), some (undef), some (undef), some (undef), some (undef), some (undef), some (undef), some (undef), some (undef), some (undef), some (undef), some (undef), some (.bool false)]) hS zV rfl ?_
     intro l w ho hcl hA hst
     refine xq hA hst ho hcl zW [0, 1, 2, 3, 4, 5, 6, 7, 8, 9, 10, 11, 12, 13, 14, 15, 16, 17, 18, 19, 20, 21, 22, 23, 24, 25, 26, 27, 28, 29, 30, 31] rfl rfl rfl (by exact ⟨nM rfl, nQ rfl (by exact qJ (xN rfl rfl rfl) (congrArg Value.bool VU)), nM rfl, nW rfl rfl rfl rfl rfl rfl rfl rfl (by exact qJ (mv rfl) rfl), nW rfl rfl rfl rfl rfl rfl rfl rfl (by exact qJ (mv rfl) rfl), nW rfl rfl rfl rfl rfl rfl rfl rfl (by exact qJ (xN rfl rfl rfl) rfl), nW rfl rfl rfl rfl rfl rfl rfl rfl (by exact qJ (mv rfl) rfl), nW rfl rfl rfl rfl rfl rfl rfl rfl (by exact qJ (xM rfl) rfl), nW rfl rfl rfl rfl rfl rfl rfl rfl (by exact qJ (zz rfl Tryz.runUnderlying117 rfl Tryz.sizeOf9 rfl) rfl), nW rfl rfl rfl rfl rfl rfl rfl rfl (by exact qJ (zU 0 rfl VT rfl rfl Tryz.isAgg9) rfl), nW rfl rfl rfl rfl rfl rfl rfl rfl (by exact qJ (ye rfl Tryz.runUnderlying9) rfl), nW rfl rfl rfl rfl rfl rfl rfl rfl (by exact qJ (xN rfl rfl rfl) (congrArg Value.bool VY)), nQ rfl (by exact qJ (pk rfl rfl rfl) rfl), nM rfl, nS rfl rfl rfl rfl rfl rfl rfl rfl rfl, nS rfl rfl rfl rfl rfl rfl rfl rfl rfl, nS rfl rfl rfl rfl rfl rfl rfl rfl rfl, nS rfl rfl rfl rfl rfl rfl rfl rfl rfl, nS rfl rfl rfl rfl rfl rfl rfl rfl rfl, nS rfl rfl rfl rfl rfl rfl rfl rfl rfl, nS rfl rfl rfl rfl rfl rfl rfl rfl rfl, nS rfl rfl rfl rfl rfl rfl rfl rfl rfl, nS rfl rfl rfl rfl rfl rfl rfl rfl rfl, nS rfl rfl rfl rfl rfl rfl rfl rfl rfl, nS rfl rfl rfl rfl rfl rfl rfl rfl rfl, nS rfl rfl rfl rfl rfl rfl rfl rfl rfl, nS rfl rfl rfl rfl rfl rfl rfl rfl rfl, nS rfl rfl rfl rfl rfl rfl rfl rfl rfl, nS rfl rfl rfl rfl rfl rfl rfl rfl rfl, nS rfl rfl rfl rfl rfl rfl rfl rfl rfl, nS rfl rfl rfl rfl rfl rfl rfl rfl rfl, nQ rfl (by exact qJ (pk rfl rfl rfl) rfl), trivial⟩) fun a w hS => ?_
     replace hS := hS.env2 (e' := [(0, qx VS 0), (1, .int .i64 VR), (2, .int .i64 VQ), (7, .int .i64 VO), (39, .bool false)]) ⟨rfl, rfl, rfl, rfl, rfl, trivial⟩
     refine qc ?_
     exact VX _ _ ⟨false, hS.to [0, 1] (by kernel_rfl) ⟨rfl, rfl, rfl, rfl, rfl, trivial⟩, hM⟩
   ·refine qM (vals := [some (.int .i64 VO), some (.bool false), some (.bool false), some (undef), some (undef), some (undef), some (undef), some (undef), some (undef), some (undef), some (undef), some (undef), some (.bool false), some (.bool false), some (undef), some (undef), some (undef), some (undef), some (undef), some (undef), some (undef), some (undef), some (undef), some (undef), some (undef), some (undef), some (undef), some (undef), some (undef), some (undef), some (undef), some (.bool false)]) hS zV rfl ?_
    intro l w ho hcl hA hst
    refine xq hA hst ho hcl zW [0, 1, 2, 3, 4, 5, 6, 7, 8, 9, 10, 11, 12, 13, 14, 15, 16, 17, 18, 19, 20, 21, 22, 23, 24, 25, 26, 27, 28, 29, 30, 31] rfl rfl rfl (by exact ⟨nM rfl, nQ rfl (by exact qJ (xN rfl rfl rfl) (congrArg Value.bool VU)), nM rfl, nS rfl rfl rfl rfl rfl rfl rfl rfl rfl, nS rfl rfl rfl rfl rfl rfl rfl rfl rfl, nS rfl rfl rfl rfl rfl rfl rfl rfl rfl, nS rfl rfl rfl rfl rfl rfl rfl rfl rfl, nS rfl rfl rfl rfl rfl rfl rfl rfl rfl, nS rfl rfl rfl rfl rfl rfl rfl rfl rfl, nS rfl rfl rfl rfl rfl rfl rfl rfl rfl, nS rfl rfl rfl rfl rfl rfl rfl rfl rfl, nS rfl rfl rfl rfl rfl rfl rfl rfl rfl, nQ rfl (by exact qJ (pk rfl rfl rfl) rfl), nM rfl, nS rfl rfl rfl rfl rfl rfl rfl rfl rfl, nS rfl rfl rfl rfl rfl rfl rfl rfl rfl, nS rfl rfl rfl rfl rfl rfl rfl rfl rfl, nS rfl rfl rfl rfl rfl rfl rfl rfl rfl, nS rfl rfl rfl rfl rfl rfl rfl rfl rfl, nS rfl rfl rfl rfl rfl rfl rfl rfl rfl, nS rfl rfl rfl rfl rfl rfl rfl rfl rfl, nS rfl rfl rfl rfl rfl rfl rfl rfl rfl, nS rfl rfl rfl rfl rfl rfl rfl rfl rfl, nS rfl rfl rfl rfl rfl rfl rfl rfl rfl, nS rfl rfl rfl rfl rfl rfl rfl rfl rfl, nS rfl rfl rfl rfl rfl rfl rfl rfl rfl, nS rfl rfl rfl rfl rfl rfl rfl rfl rfl, nS rfl rfl rfl rfl rfl rfl rfl rfl rfl, nS rfl rfl rfl rfl rfl rfl rfl rfl rfl, nS rfl rfl rfl rfl rfl rfl rfl rfl rfl, nS rfl rfl rfl rfl rfl rfl rfl rfl rfl, nQ rfl (by exact qJ (pk rfl rfl rfl) rfl), trivial⟩) fun a w hS => ?_
    replace hS := hS.env2 (e' := [(0, qx VS 0), (1, .int .i64 VR), (2, .int .i64 VQ), (7, .int .i64 VO), (39, .bool false)]) ⟨rfl, rfl, rfl, rfl, rfl, trivial⟩
    refine qc ?_
    exact VX _ _ ⟨false, hS.to [0, 1] (by kernel_rfl) ⟨rfl, rfl, rfl, rfl, rfl, trivial⟩, hM⟩
  ·intro a w hI
   obtain ⟨V0, hS, hM⟩ := hI
   rw [zv.j2] at hM
   refine qo hS rfl hM (fun V3 hM => ?_) (fun V3 hM => ?_)
   ·refine wp_skip ?_
    refine qc <| z3 <| zb <| sM hS rfl fun hS => sB hS rfl fun hS => qY (v := Value.int .i64) (x0 := (qi (VO + (1 : Int)))) hS (zE rfl) rfl fun V6 a w hz hS => ?_
    have hM := qp hz hM; clear hz
    refine qL <| qW (qc ?_)
    exact V2 _ _ ⟨V6, hS.to [0, 1] (by kernel_rfl) ⟨rfl, rfl, rfl, rfl, trivial⟩, hM⟩
   ·refine wp_exit ?_
    refine qv (qv (qO (qc ?_)))
    refine qe <| sM hS rfl fun hS => sA hS rfl fun hS => qm <| wp_ret ?_
    exact qP (rs := [6]) hS rfl rfl (hret VO _ (qG hM) (hS.st.pick [0, 1] (by kernel_rfl)))
theorem ub {H : z7} {F : List qj} {w : World} {R : Ending → World → Prop} {kr : (Int × Int) → Prop} {kp : Value → Prop} (hG : Gl H) (K : Nat) (VO : z2) (VP : Int) (VS : Nat) (VX : qj) (VZ : Nat) (VY : qj) (V0 : xf VX VS ([qN VO.text_, .map (some VZ)]) 117) (V5 : Qv (X0 .u8) (X2 3) 3 (ci .i64) 1 VZ VO.seen_ VY)
    (hS : St w H [VX, VY] F) (hm : (zF.m K VO VP).wp kr kp)
    (hret : ∀ (V6 : Int) (V3 : Int) (w : World), kr (V6, V3) → St w H [VX, VY] F → R (.returned (.agg ⟨[.int .u8 (0 : Int), .int .i64 V6, .int .i64 V3]⟩)) w) :
    Calls Tryz.prog 81 ⟨[qx VS 0, .int .i64 VP]⟩ w R := by
 refine enter Tryz.func81 rfl Tryz.ntmps81 rfl hS fun a w hS => ?_
 have hM := hm; clear hm
 rw [zF.m] at hM
 refine qe <| jz ([.int .u8 (0 : Int), .int .i64 (0 : Int), .int .i64 (0 : Int)]) hS Tryz.zeroValue119 rfl rfl fun w Uk Uc Ue hS => qm <| qe <| jz ([.int .u8 (0 : Int), .int .i64 (0 : Int), .int .i64 (0 : Int)]) hS Tryz.zeroValue119 rfl rfl fun w V4 Um Uf hS => qm <| wp_seq <| qe <| sM hS rfl fun hS => sB hS rfl fun hS => sM hS rfl fun hS => sO hS (xM rfl) rfl fun hS => sO hS (zz rfl Tryz.runUnderlying117 rfl Tryz.sizeOf9 rfl) rfl fun hS => sO hS (zU 2 rfl V0 rfl rfl Tryz.isAgg9) rfl fun hS => sO hS (ye rfl Tryz.runUnderlying9) rfl fun hS => sB hS rfl fun hS => qm <| qo hS rfl hM (fun Ur hM => ?_) (fun Ur hM => ?_)
 ·refine wp_seq ?_
  refine zb <| sO hS (yz 0 rfl Uf rfl ([.int .u8 (0 : Int), .int .i64 (0 : Int), .int .i64 (0 : Int)]) rfl rfl Tryz.isAgg119 Tryz.sizeOf119) rfl fun hS => jn 1 ([.int .u8 (0 : Int), .int .i64 (0 : Int), .int .i64 (0 : Int)]) ([.int .u8 (0 : Int), .int .i64 (0 : Int), .int .i64 (0 : Int)]) hS rfl rfl Ue rfl rfl Tryz.sizeOf119 (by simp [Value.oneCell']) (Nat.le_of_ble_eq_true rfl) rfl fun w UA Un hS => qm <| wp_ret <| qu ?_
  exact xI (vs := [.agg ⟨[.int .u8 (0 : Int), .int .i64 (0 : Int), .int .i64 (0 : Int)]⟩]) hS rfl (by exact ⟨Qq 1 ([.int .u8 (0 : Int), .int .i64 (0 : Int), .int .i64 (0 : Int)]) rfl Un rfl rfl rfl Tryz.isAgg119 Tryz.sizeOf119, trivial⟩) (hret (0 : Int) (0 : Int) _ (qG hM) (hS.st.pick [2, 3] (by kernel_rfl)))
 ·refine wp_skip ?_
  refine qc <| wp_seq <| qM (vals := [some (qx VS 0), some (qx VS 0), some (qx VS 1), some (.map (some VZ)), some (qx VS 0), some (.int .i64 VP), none, none, none]) hS zV rfl ?_
  intro l w ho hcl hA hst
  refine x4 hA hst ho hcl zO zW 6 [0, 1, 2, 3, 4, 5] rfl rfl rfl rfl rfl (by exact ⟨nM rfl, nQ rfl (by exact qJ (xM rfl) rfl), nQ rfl (by exact qJ (zz rfl Tryz.runUnderlying117 rfl Tryz.sizeOf115 rfl) rfl), nQ rfl (by exact qJ (zU 2 rfl V0 rfl rfl Tryz.isAgg115) rfl), nM rfl, nM rfl, trivial⟩) fun D l a w ho hcl hav hpre hm hE hk hA hst => ?_
  have hS := (Ss.mk hE hst).env2 (e' := [(23, qx VS 0), (24, .int .i64 VP)]) ⟨rfl, rfl, trivial⟩
  refine qC rfl <| qq hS rfl Tryz.call107 (vh hG K VO VP VS VX VZ VY V0 V5 (hS.st.part 2 [2, 3, 0, 1] (by kernel_rfl)) (qh hM) (fun  w hM  hst => qn hS.ev hst.appF rfl fun hS => ?_))
  replace hS : Ss _ _ _ H [VX, VY, Um, Uc] F _ _ := hS
  refine qm ?_
  replace hst := hS.st
  obtain ⟨hcl, hmust, hav2, hA⟩ := dn (vals' := [some (qx VS 0), some (qx VS 0), some (qx VS 1), some (.map (some VZ)), some (qx VS 0), some (.int .i64 VP), some (.agg ⟨([((rd VO.text_ VP).toNat : Int), ((rd VO.text_ (qi (VP + (1 : Int)))).toNat : Int), ((rd VO.text_ (qi (VP + (2 : Int)))).toNat : Int)] : List Int).flatMap (ci .u8)⟩), none, none]) 6 [(4, 6), (5, 6)] hA hcl hav hm hpre hk rfl rfl rfl rfl rfl rfl rfl
  clear hm hav
  refine x4 hA hst ho hcl hav2 hmust 7 [0, 1, 2, 3] rfl rfl rfl rfl rfl (by exact ⟨nM rfl, nQ rfl (by exact qJ (xM rfl) rfl), nQ rfl (by exact qJ (zz rfl Tryz.runUnderlying117 rfl Tryz.sizeOf115 rfl) rfl), nQ rfl (by exact qJ (zU 0 rfl V0 rfl rfl Tryz.isAgg115) rfl), trivial⟩) fun D l a w ho hcl hav hpre hm hE hk hA hst => ?_
  have hS := (Ss.mk hE hst).env2 (e' := [(22, .map (some VZ)), (25, .agg ⟨([((rd VO.text_ VP).toNat : Int), ((rd VO.text_ (qi (VP + (1 : Int)))).toNat : Int), ((rd VO.text_ (qi (VP + (2 : Int)))).toNat : Int)] : List Int).flatMap (ci .u8)⟩)]) ⟨rfl, rfl, trivial⟩
  refine qC rfl <| Vy (kv := X0 .u8) (ok := X2 3) (E := 3) (g := (ci .i64)) (sz := 1) (q := ([((rd VO.text_ VP).toNat : Int), ((rd VO.text_ (qi (VP + (1 : Int)))).toNat : Int), ((rd VO.text_ (qi (VP + (2 : Int)))).toNat : Int)] : List Int)) 1 hS rfl rfl rfl rfl V5 rfl (Yh Tryz.runUnderlying168 Tryz.runUnderlying5 Tryz.sizeOf5 Tryz.isAgg5) Tryz.runUnderlying115 Tryz.zeroValue128 (fun _ => rfl) rfl rfl fun VW Ua Ub w hz Uj Ux hS => ?_
  have hM := qp hz hM; clear hz
  refine qm ?_
  replace hst := hS.st
  obtain ⟨hcl, hmust, hav2, hA⟩ := dn (vals' := [some (qx VS 0), some (qx VS 0), some (qx VS 1), some (.map (some VZ)), some (qx VS 0), some (.int .i64 VP), some (.agg ⟨([((rd VO.text_ VP).toNat : Int), ((rd VO.text_ (qi (VP + (1 : Int)))).toNat : Int), ((rd VO.text_ (qi (VP + (2 : Int)))).toNat : Int)] : List Int).flatMap (ci .u8)⟩), some (.slice Ua VW.length Ub), some (.slice Ua VW.length Ub)]) 7 [(3, 7), (6, 7), (2, 3), (4, 6), (5, 6), (1, 2), (0, 1)] hA hcl hav hm hpre hk rfl rfl rfl rfl rfl rfl rfl
  clear hm hav
  refine xq hA hst ho hcl hmust [8] rfl rfl rfl (by exact ⟨nA rfl, trivial⟩) fun a w hS => ?_
  replace hS := hS.env2 (e' := [(0, qx VS 0), (1, .int .i64 VP), (4, qx Uk 0), (5, qx V4 0), (6, .slice Ua VW.length Ub)]) ⟨rfl, rfl, rfl, rfl, rfl, trivial⟩
  refine qc <| qV (fun a w => ∃ (VT : Int) (VR : Int) (Ul : qj), Ss 63 [] [(4, qx Uk 0), (5, qx V4 0)] H [VX, VY, Uc, Ul] F a w ∧ (xf Ul V4 ([.int .u8 (0 : Int), .int .i64 VT, .int .i64 VR]) 119) ∧ (zF.j2 K VT VR).wp kr kp) (fun Uz Uh => ?_) ?_
  ·refine wp_seq ?_
   refine zb <| sA hS rfl fun hS => qm <| z3 <| q6 (fun Uv a w => ∃ (VV : Int) (VU : Int) (V2 : qj) (VQ : Int), Ss 63 [] [(0, qx VS 0), (1, .int .i64 VP), (4, qx Uk 0), (5, qx V4 0), (6, .slice Ua VW.length Ub), (7, .int .i64 VQ)] H [VX, VY, Uc, V2] F a w ∧ (xf V2 V4 ([.int .u8 (0 : Int), .int .i64 VV, .int .i64 VU]) 119) ∧ (zF.l1 K VO VP VW Uv VV VU VQ).wp kr kp) K ?_ ?_ ?_
   ·exact ⟨(0 : Int), (0 : Int), Um, (0 : Int), hS.to [0, 1, 3, 2] (by kernel_rfl) ⟨rfl, rfl, rfl, rfl, rfl, rfl, trivial⟩, Uf, hM⟩
   ·intro a w hI; obtain ⟨_, _, _, _, _, _, hM⟩ := hI; exact qX hM
   ·intro Uv a w hI Uy Ug
    obtain ⟨VV, VU, V2, VQ, hS, V1, hM⟩ := hI
    rw [zF.l1] at hM
    refine wp_seq <| qe <| sM hS rfl fun hS => sB hS rfl fun hS => sM hS rfl fun hS => xm 4 true 29 (b := (decide (VQ < (32 : Int)))) (r := (decide (VQ < (VW.length : Int)))) hS rfl rfl rfl rfl rfl rfl rfl (fun hb a w hS K hK => ?_) rfl fun a w hS => ?_
    ·refine qI hS rfl rfl rfl hb (mv rfl) rfl fun a w hS => ?_
     refine qI hS rfl rfl rfl hb (mv rfl) rfl fun a w hS => qI hS rfl rfl rfl hb (xw rfl Tryz.runUnderlying128) rfl fun a w hS => qI hS rfl rfl rfl hb (xN rfl rfl rfl) rfl fun a w hS => ?_
     exact qL (hK _ _ (hS.up 4 rfl rfl))
    refine qm <| qo hS rfl hM (fun Us hM => ?_) (fun Us hM => ?_)
    ·refine wp_skip ?_
     refine qc <| wp_seq <| z3 <| qe <| sM hS rfl fun hS => sM hS rfl fun hS => sO hS (xw rfl Tryz.runUnderlying128) rfl fun hS => sB hS rfl fun hS => sM hS rfl fun hS => sB hS rfl fun hS => ?_
     obtain ⟨Ui, hM⟩ := qt hM
     refine sO hS (xF rfl rfl Tryz.runUnderlying128 Tryz.sizeOf3 (Uj.rd (i := 1) rfl) (fun _ => rfl) rfl Ui) rfl fun hS => sO hS (xO rfl (Uj.rd (i := 1) rfl) (fun _ => rfl) Ui rfl Tryz.isAgg3) rfl fun hS => qY (v := Value.int .i64) (x0 := (rd VW (qi ((qi ((VW.length : Int) - (1 : Int))) - VQ)))) hS (zE rfl) rfl fun V7 a w hz hS => ?_
     have hM := qp hz hM; clear hz
     refine qm <| wp_seq <| qe <| sM hS rfl fun hS => sM hS rfl fun hS => sB hS rfl fun hS => sB hS rfl fun hS => qm <| qo hS rfl hM (fun Ut hM => ?_) (fun Ut hM => ?_)
     ·refine wp_exit ?_
      refine qv (Zk rfl (qv (qv (qO (qc ?_)))))
      exact Uh _ _ ⟨VV, VU, V2, hS.to [0, 1, 2, 3] (by kernel_rfl) ⟨rfl, rfl, trivial⟩, V1, hM⟩
     ·refine wp_skip ?_
      refine qc <| qe <| sM hS rfl fun hS => sM hS rfl fun hS => sM hS rfl fun hS => qq hS rfl Tryz.call108 (uc hG K VO V7 VP VS VX VZ VY V0 V5 (hS.st.part 2 [0, 1, 2, 3] (by kernel_rfl)) (qh hM) (fun Ud w hM  hst => qn hS.ev hst.appF rfl fun hS => ?_))
      replace hS : Ss _ _ _ H [VX, VY, Uc, V2] F _ _ := hS
      refine sA hS rfl fun hS => qm <| qe <| sM hS rfl fun hS => sO hS (zz rfl Tryz.runUnderlying119 rfl Tryz.sizeOf3 rfl) rfl fun hS => sO hS (zU 3 rfl V1 rfl rfl Tryz.isAgg3) rfl fun hS => sB hS rfl fun hS => qm <| qo hS rfl hM (fun Uu hM => ?_) (fun Uu hM => ?_)
      ·refine zb ?_
       refine sM hS rfl fun hS => sM hS rfl fun hS => sM hS rfl fun hS => sB hS rfl fun hS => sO hS (vI ([.int .u8 (0 : Int), .int .i64 Ud, .int .i64 (qi (VP - V7))]) [(0, 1), (1, 1), (2, 1)] Tryz.zeroValue119 Tryz.runUnderlying119 (by intro w; simp [Tryz.sizeOf3, Tryz.sizeOf5]) rfl rfl) rfl fun hS => jn 3 ([.int .u8 (0 : Int), .int .i64 Ud, .int .i64 (qi (VP - V7))]) ([.int .u8 (0 : Int), .int .i64 Ud, .int .i64 (qi (VP - V7))]) hS rfl rfl V1 rfl rfl Tryz.sizeOf119 (by simp [Value.oneCell']) (Nat.le_of_ble_eq_true rfl) rfl fun w Uw Uo hS => qL <| qW (qc ?_)
       refine zb <| sM hS rfl fun hS => sB hS rfl fun hS => qY (v := Value.int .i64) (x0 := (qi (VQ + (1 : Int)))) hS (zE rfl) rfl fun V8 a w hz hS => ?_
       have hM := qp hz hM; clear hz
       refine qL <| qc ?_
       exact Ug _ _ ⟨Ud, (qi (VP - V7)), Uw, V8, hS.to [0, 1, 2, 3] (by kernel_rfl) ⟨rfl, rfl, rfl, rfl, rfl, rfl, trivial⟩, Uo, hM⟩
      ·refine wp_skip ?_
       refine qW (qc ?_)
       refine zb <| sM hS rfl fun hS => sB hS rfl fun hS => qY (v := Value.int .i64) (x0 := (qi (VQ + (1 : Int)))) hS (zE rfl) rfl fun V9 a w hz hS => ?_
       have hM := qp hz hM; clear hz
       refine qL <| qc ?_
       exact Ug _ _ ⟨VV, VU, V2, V9, hS.to [0, 1, 2, 3] (by kernel_rfl) ⟨rfl, rfl, rfl, rfl, rfl, rfl, trivial⟩, V1, hM⟩
    ·refine wp_exit ?_
     refine qv (qv (qO (qc ?_)))
     exact Uh _ _ ⟨VV, VU, V2, hS.to [0, 1, 2, 3] (by kernel_rfl) ⟨rfl, rfl, trivial⟩, V1, hM⟩
  ·intro a w hI
   obtain ⟨VT, VR, Ul, hS, Up, hM⟩ := hI
   rw [zF.j2] at hM
   refine qe <| sO hS (yz 3 rfl Up rfl ([.int .u8 (0 : Int), .int .i64 VT, .int .i64 VR]) rfl rfl Tryz.isAgg119 Tryz.sizeOf119) rfl fun hS => jn 2 ([.int .u8 (0 : Int), .int .i64 VT, .int .i64 VR]) ([.int .u8 (0 : Int), .int .i64 VT, .int .i64 VR]) hS rfl rfl Ue rfl rfl Tryz.sizeOf119 (by simp [Value.oneCell']) (Nat.le_of_ble_eq_true rfl) rfl fun w UB Uq hS => qm <| wp_ret ?_
   exact xI (vs := [.agg ⟨[.int .u8 (0 : Int), .int .i64 VT, .int .i64 VR]⟩]) hS rfl (by exact ⟨Qq 2 ([.int .u8 (0 : Int), .int .i64 VT, .int .i64 VR]) rfl Uq rfl rfl rfl Tryz.isAgg119 Tryz.sizeOf119, trivial⟩) (hret VT VR _ (qG hM) (hS.st.pick [0, 1] (by kernel_rfl)))
theorem ue {H : z7} {F : List qj} {w : World} {R : Ending → World → Prop} {kr : (List ((List Int) × (List Int))) → Prop} {kp : Value → Prop} (hG : Gl H) (K : Nat) (VO : z2) (VP : Int) (VQ : Nat) (V1 : qj) (VR : Nat) (V2 : qj) (VW : xf V1 VQ ([qN VO.text_, .map (some VR)]) 117) (V3 : Qv (X0 .u8) (X2 3) 3 (ci .i64) 1 VR VO.seen_ V2)
    (hS : St w H [V1, V2] F) (hm : (ja.m K VO VP).wp kr kp)
    (hret : ∀ (VY : (List ((List Int) × (List Int)))) (V7 : qj) (w : World), kr VY → (Qv (X0 .u8) (X2 3) 3 (ci .i64) 1 VR VY V7) → St w H [V1, V7] F → R (.returned (.tuple ⟨[]⟩)) w) :
    Calls Tryz.prog 82 ⟨[qx VQ 0, .int .i64 VP]⟩ w R := by
 refine enter Tryz.func82 rfl Tryz.ntmps82 rfl hS fun a w hS => ?_
 have hM := hm; clear hm
 rw [ja.m] at hM
 refine qe <| sM hS rfl fun hS => sB hS rfl fun hS => sM hS rfl fun hS => sO hS (xM rfl) rfl fun hS => sO hS (zz rfl Tryz.runUnderlying117 rfl Tryz.sizeOf9 rfl) rfl fun hS => sO hS (zU 0 rfl VW rfl rfl Tryz.isAgg9) rfl fun hS => sO hS (ye rfl Tryz.runUnderlying9) rfl fun hS => sB hS rfl fun hS => qm <| qo hS rfl hM (fun Ue hM => ?_) (fun Ue hM => ?_)
 ·refine wp_seq ?_
  refine zb <| sM hS rfl fun hS => sM hS rfl fun hS => qq hS rfl Tryz.call107 (vh hG K VO VP VQ V1 VR V2 VW V3 (hS.st.part 2 [0, 1] (by kernel_rfl)) (qh hM) (fun  w hM  hst => qn hS.ev hst.appF rfl fun hS => ?_))
  replace hS : Ss _ _ _ H [V1, V2] F _ _ := hS
  refine jz ((List.replicate 3 (0 : Int)).flatMap (ci .u8)) hS Tryz.zeroValue168 rfl rfl fun w Ug Uk V8 hS => QZ (xs := (List.replicate 3 (0 : Int))) (ys := ([((rd VO.text_ VP).toNat : Int), ((rd VO.text_ (qi (VP + (1 : Int)))).toNat : Int), ((rd VO.text_ (qi (VP + (2 : Int)))).toNat : Int)] : List Int)) (g := (ci .u8)) (pre := []) (post := []) 0 hS rfl rfl V8 rfl (by simp) rfl (zP (g := (ci .u8)) (sz := 1) (fun _ => rfl) (List.length_replicate ..)) (zP (g := (ci .u8)) (sz := 1) (fun _ => rfl) rfl) (jc) Tryz.sizeOf168 fun w Uh VX hS => ?_
  replace VX : xf Uh Ug (([((rd VO.text_ VP).toNat : Int), ((rd VO.text_ (qi (VP + (1 : Int)))).toNat : Int), ((rd VO.text_ (qi (VP + (2 : Int)))).toNat : Int)] : List Int).flatMap (ci .u8)) 168 := by simpa using VX
  refine qm <| qM (vals := [some (qx VQ 0), some (qx VQ 0), some (qx VQ 1), some (.map (some VR)), some (.agg ⟨([((rd VO.text_ VP).toNat : Int), ((rd VO.text_ (qi (VP + (1 : Int)))).toNat : Int), ((rd VO.text_ (qi (VP + (2 : Int)))).toNat : Int)] : List Int).flatMap (ci .u8)⟩), some (.int .i64 VP), none, none, none, none, none, none]) hS zV rfl ?_
  intro l w ho hcl hA hst
  refine x4 hA hst ho hcl zO zW 6 [0, 1, 2, 3, 4, 5] rfl rfl rfl rfl rfl (by exact ⟨nM rfl, nQ rfl (by exact qJ (xM rfl) rfl), nQ rfl (by exact qJ (zz rfl Tryz.runUnderlying117 rfl Tryz.sizeOf115 rfl) rfl), nQ rfl (by exact qJ (zU 1 rfl VW rfl rfl Tryz.isAgg115) rfl), nQ rfl (by exact qJ (QX (xs := ([((rd VO.text_ VP).toNat : Int), ((rd VO.text_ (qi (VP + (1 : Int)))).toNat : Int), ((rd VO.text_ (qi (VP + (2 : Int)))).toNat : Int)] : List Int)) (g := (ci .u8)) (pre := []) (post := []) 0 rfl VX rfl (by simp) rfl (zP (g := (ci .u8)) (sz := 1) (fun _ => rfl) rfl) Tryz.isAgg168 Tryz.sizeOf168) rfl), nM rfl, trivial⟩) fun D l a w ho hcl hav hpre hm hE hk hA hst => ?_
  have hS := (Ss.mk hE hst).env2 (e' := [(22, .int .i64 VP)]) ⟨rfl, trivial⟩
  refine qC rfl <| Qh (g := (ci .i64)) ([VP] : List Int) [.int .i64 VP] hS Tryz.runUnderlying128 Tryz.sizeOf3 X.el3 rfl rfl rfl (by simp [Value.cells]) rfl rfl rfl rfl rfl fun w VZ V0 Ul Ub hS => qm ?_
  replace hst := hS.st
  obtain ⟨hcl, hmust, hav2, hA⟩ := dn (vals' := [some (qx VQ 0), some (qx VQ 0), some (qx VQ 1), some (.map (some VR)), some (.agg ⟨([((rd VO.text_ VP).toNat : Int), ((rd VO.text_ (qi (VP + (1 : Int)))).toNat : Int), ((rd VO.text_ (qi (VP + (2 : Int)))).toNat : Int)] : List Int).flatMap (ci .u8)⟩), some (.int .i64 VP), some (.slice VZ ([VP] : List Int).length V0), none, none, none, none, none]) 6 [(5, 6)] hA hcl hav hm hpre hk rfl rfl rfl rfl rfl rfl rfl
  clear hm hav
  refine x4 hA hst ho hcl hav2 hmust 7 [0, 1, 2, 3, 4] rfl rfl rfl rfl rfl (by exact ⟨nM rfl, nQ rfl (by exact qJ (xM rfl) rfl), nQ rfl (by exact qJ (zz rfl Tryz.runUnderlying117 rfl Tryz.sizeOf115 rfl) rfl), nQ rfl (by exact qJ (zU 2 rfl VW rfl rfl Tryz.isAgg115) rfl), nQ rfl (by exact qJ (QX (xs := ([((rd VO.text_ VP).toNat : Int), ((rd VO.text_ (qi (VP + (1 : Int)))).toNat : Int), ((rd VO.text_ (qi (VP + (2 : Int)))).toNat : Int)] : List Int)) (g := (ci .u8)) (pre := []) (post := []) 1 rfl VX rfl (by simp) rfl (zP (g := (ci .u8)) (sz := 1) (fun _ => rfl) rfl) Tryz.isAgg168 Tryz.sizeOf168) rfl), trivial⟩) fun D l a w ho hcl hav hpre hm hE hk hA hst => ?_
  have hS := (Ss.mk hE hst).env2 (e' := [(19, .map (some VR)), (20, .agg ⟨([((rd VO.text_ VP).toNat : Int), ((rd VO.text_ (qi (VP + (1 : Int)))).toNat : Int), ((rd VO.text_ (qi (VP + (2 : Int)))).toNat : Int)] : List Int).flatMap (ci .u8)⟩)]) ⟨rfl, rfl, trivial⟩
  refine qC rfl ?_
  replace hS := hS.front [3, 0, 1, 2] (by kernel_rfl)
  refine Vz (kv := X0 .u8) (ok := X2 3) (E := 3) (g := (ci .i64)) (sz := 1) (q := ([((rd VO.text_ VP).toNat : Int), ((rd VO.text_ (qi (VP + (1 : Int)))).toNat : Int), ((rd VO.text_ (qi (VP + (2 : Int)))).toNat : Int)] : List Int)) hS rfl rfl rfl rfl V3 (Yh Tryz.runUnderlying168 Tryz.runUnderlying5 Tryz.sizeOf5 Tryz.isAgg5) Tryz.runUnderlying115 Tryz.zeroValue128 rfl fun VS w VT VU VV Um Un hz Uc V9 hS => ?_
  have hM := qp hz hM; clear hz
  refine qm ?_
  replace hst := hS.st
  obtain ⟨hcl, hmust, hav2, hA⟩ := dn (vals' := [some (qx VQ 0), some (qx VQ 0), some (qx VQ 1), some (.map (some VR)), some (.agg ⟨([((rd VO.text_ VP).toNat : Int), ((rd VO.text_ (qi (VP + (1 : Int)))).toNat : Int), ((rd VO.text_ (qi (VP + (2 : Int)))).toNat : Int)] : List Int).flatMap (ci .u8)⟩), some (.int .i64 VP), some (.slice VZ ([VP] : List Int).length V0), some (.tuple ⟨[.slice VT VS.length VU, .int .i64 ((VV : Nat) : Int)]⟩), some (.slice VT VS.length VU), none, some (.int .i64 ((VV : Nat) : Int)), none]) 7 [(0, 7), (1, 7), (2, 7), (3, 7), (4, 7), (5, 7), (6, 7)] hA hcl hav hm hpre hk rfl rfl rfl rfl rfl rfl rfl
  clear hm hav
  refine x4 hA hst ho hcl hav2 hmust 9 [8, 10] rfl rfl rfl rfl rfl (by exact ⟨nQ rfl (by exact qJ (ex rfl rfl) rfl), nQ rfl (by exact qJ (ex rfl rfl) rfl), trivial⟩) fun D l a w ho hcl hav hpre hm hE hk hA hst => ?_
  have hS := (Ss.mk hE hst).env2 (e' := [(21, .slice VT VS.length VU), (23, .slice VZ ([VP] : List Int).length V0)]) ⟨rfl, rfl, trivial⟩
  refine qC rfl ?_
  obtain ⟨Uf, hM⟩ := qt hM
  refine QR (ys := ([VP] : List Int)) 0 hS rfl rfl Uc rfl (Ub.rd (i := 2) rfl) Tryz.runUnderlying128 Tryz.runUnderlying128 X.el3 (fun _ => rfl) rfl xg Uf rfl fun V4 w V5 V6 Uo hz Ud hS => ?_
  have hM := qp hz hM; clear hz
  refine qm ?_
  replace hst := hS.st
  obtain ⟨hcl, hmust, hav2, hA⟩ := dn (vals' := [some (qx VQ 0), some (qx VQ 0), some (qx VQ 1), some (.map (some VR)), some (.agg ⟨([((rd VO.text_ VP).toNat : Int), ((rd VO.text_ (qi (VP + (1 : Int)))).toNat : Int), ((rd VO.text_ (qi (VP + (2 : Int)))).toNat : Int)] : List Int).flatMap (ci .u8)⟩), some (.int .i64 VP), some (.slice VZ ([VP] : List Int).length V0), some (.tuple ⟨[.slice VT VS.length VU, .int .i64 ((VV : Nat) : Int)]⟩), some (.slice VT VS.length VU), some (.slice V5 V4.length V6), some (.int .i64 ((VV : Nat) : Int)), none]) 9 [(6, 9), (7, 9), (8, 9), (5, 6), (0, 7), (1, 7), (2, 7), (3, 7), (4, 7)] hA hcl hav hm hpre hk rfl rfl rfl rfl rfl rfl rfl
  clear hm hav
  refine x4 hA hst ho hcl hav2 hmust 11 [10] rfl rfl rfl rfl rfl (by exact ⟨nQ rfl (by exact qJ (ex rfl rfl) rfl), trivial⟩) fun D l a w ho hcl hav hpre hm hE hk hA hst => ?_
  have hS := (Ss.mk hE hst).env2 (e' := [(19, .map (some VR)), (25, .slice V5 V4.length V6), (26, .int .i64 ((VV : Nat) : Int))]) ⟨rfl, rfl, rfl, trivial⟩
  refine qC rfl ?_
  replace hS := hS.front [0, 1, 2, 3, 4] (by kernel_rfl)
  refine Vt (kv := X0 .u8) (ok := X2 3) (E := 3) (g := (ci .i64)) (sz := 1) hS rfl rfl rfl Ud V9 fun Uj w Ui hz Ua hS => ?_
  have hM := qp hz hM; clear hz
  refine qm ?_
  replace hst := hS.st
  obtain ⟨hcl, hmust, hav2, hA⟩ := Qt (vals' := [some (qx VQ 0), some (qx VQ 0), some (qx VQ 1), some (.map (some VR)), some (.agg ⟨([((rd VO.text_ VP).toNat : Int), ((rd VO.text_ (qi (VP + (1 : Int)))).toNat : Int), ((rd VO.text_ (qi (VP + (2 : Int)))).toNat : Int)] : List Int).flatMap (ci .u8)⟩), some (.int .i64 VP), some (.slice VZ ([VP] : List Int).length V0), some (.tuple ⟨[.slice VT VS.length VU, .int .i64 ((VV : Nat) : Int)]⟩), some (.slice VT VS.length VU), some (.slice V5 V4.length V6), some (.int .i64 ((VV : Nat) : Int)), some undef]) 11 [(0, 11), (1, 11), (2, 11), (3, 11), (4, 11), (5, 11), (6, 11), (7, 11), (8, 11), (9, 11), (10, 11)] hA hcl hav hm hpre rfl rfl rfl rfl rfl
  clear hm hav
  refine xq hA hst ho hcl hmust [] rfl rfl rfl trivial fun a w hS => ?_
  replace hS := hS.env2 (e' := []) trivial
  exact yW (rs := []) hS rfl rfl (hret Uj Ui _ (qG hM) Ua (hS.st.pick [3, 0] (by kernel_rfl)))
 ·refine wp_skip ?_
  exact yW (rs := []) hS rfl rfl (hret VO.seen_ V2 _ (qG hM) V3 (hS.st.pick [0, 1] (by kernel_rfl)))
theorem Zv {H : z7} {F : List qj} {w : World} {R : Ending → World → Prop} {kr : (List qH) → Prop} {kp : Value → Prop} (hG : Gl H) (K : Nat) (VQ : List UInt8)
    (hS : St w H [] F) (hm : (z4.m K VQ).wp kr kp)
    (hret : ∀ (Um : Option Addr) (Up : Nat) (Uk : (List qH)) (Ur : qj) (w : World), kr Uk → (zM 119 qH.cells 3 Um Uk Up Ur) → St w H [Ur] F → R (.returned (.slice Um Uk.length Up)) w) :
    Calls Tryz.prog 67 ⟨[qN VQ]⟩ w R := by
 refine enter Tryz.func67 rfl Tryz.ntmps67 rfl hS fun a w hS => ?_
 have hM := hm; clear hm
 rw [z4.m] at hM
 refine qe <| sA hS rfl fun hS => ?_
 obtain ⟨US, UM, hS⟩ := hS.nilV 119 qH.cells 3
 refine qm <| qe <| sM hS rfl fun hS => VA (kv := X0 .u8) (ok := X2 3) (E := 3) (g := (ci .i64)) (sz := 1) hS rfl fun w V0 UG Uw hS => sO hS (vI ([qN VQ, .map (some V0)]) [(0, 1), (1, 1)] Tryz.zeroValue117 Tryz.runUnderlying117 (by intro w; simp [Tryz.sizeOf115, Tryz.sizeOf9]) rfl rfl) rfl fun hS => bx ([qN VQ, .map (some V0)]) hS rfl rfl rfl fun w V4 VX Uc hS => sA hS rfl fun hS => qm <| qe <| sA hS rfl fun hS => ?_
 obtain ⟨UH, Ux, hS⟩ := hS.nilV 119 qH.cells 3
 refine qm <| wp_seq <| qe <| sA hS rfl fun hS => qm <| z3 <| q6 (fun V9 a w => ∃ (VR : (List ((List Int) × (List Int)))) (VY : qj) (V3 : Option Addr) (V5 : Nat) (VV : (List qH)) (V1 : qj) (VU : Int), Ss 41 [] [(0, qN VQ), (3, qx V4 0), (4, .slice V3 VV.length V5), (5, .int .i64 VU)] H [VX, VY, V1] F a w ∧ (Qv (X0 .u8) (X2 3) 3 (ci .i64) 1 V0 VR VY) ∧ (zM 119 qH.cells 3 V3 VV V5 V1) ∧ (z4.l1 K VQ V9 VR VV VU).wp kr kp) K ?_ ?_ ?_
 ·exact ⟨([] : List ((List Int) × (List Int))), UG, none, 0, ([] : List qH), UH, (0 : Int), hS.to [1, 2, 0] (by kernel_rfl) ⟨rfl, rfl, rfl, rfl, trivial⟩, Uw, Ux, hM⟩
 ·intro a w hI; obtain ⟨_, _, _, _, _, _, _, _, _, _, hM⟩ := hI; exact qX hM
 ·intro V9 a w hI UQ Uv
  obtain ⟨VR, VY, V3, V5, VV, V1, VU, hS, Uf, Uh, hM⟩ := hI
  rw [z4.l1] at hM
  refine wp_seq <| qe <| sM hS rfl fun hS => sM hS rfl fun hS => sO hS (ye rfl Tryz.runUnderlying9) rfl fun hS => sB hS rfl fun hS => qm <| qo hS rfl hM (fun UA hM => ?_) (fun UA hM => ?_)
  ·refine wp_skip ?_
   refine qc <| z3 <| qe <| sM hS rfl fun hS => sM hS rfl fun hS => qq hS rfl Tryz.call81 (ub hG K (z2.mk VQ VR) VU V4 VX V0 VY Uc Uf (hS.st.part 2 [0, 1, 2] (by kernel_rfl)) (qh hM) (fun VZ VW w hM  hst => qn hS.ev hst.appF rfl fun hS => ?_))
   replace hS : Ss _ _ _ H [VX, VY, V1] F _ _ := hS
   refine jz ([.int .u8 (0 : Int), .int .i64 (0 : Int), .int .i64 (0 : Int)]) hS Tryz.zeroValue119 rfl rfl fun w Un UT Us hS => jn 0 ([.int .u8 (0 : Int), .int .i64 VZ, .int .i64 VW]) ([.int .u8 (0 : Int), .int .i64 VZ, .int .i64 VW]) hS rfl rfl Us rfl rfl Tryz.sizeOf119 (by simp [Value.oneCell']) (Nat.le_of_ble_eq_true rfl) rfl fun w UI V7 hS => qm <| qV (fun a w => ∃ (VS : Int) (VO : Int) (VP : Int) (Ui : qj), Ss 41 [] [(0, qN VQ), (3, qx V4 0), (4, .slice V3 VV.length V5), (5, .int .i64 VU), (6, qx Un 0)] H [VX, VY, V1, Ui] F a w ∧ (xf Ui Un ([.int .u8 VS, .int .i64 VO, .int .i64 VP]) 119) ∧ (z4.j2 K (z4.l1 K VQ V9) VQ VR VV VU VS VO VP).wp kr kp) (fun UO Ue => ?_) ?_
   ·refine wp_seq ?_
    refine zb <| sO hS (zz rfl Tryz.runUnderlying119 rfl Tryz.sizeOf3 rfl) rfl fun hS => sO hS (zU 0 rfl V7 rfl rfl Tryz.isAgg3) rfl fun hS => sB hS rfl fun hS => qm <| qo hS rfl hM (fun UB hM => ?_) (fun UB hM => ?_)
    ·refine zb ?_
     refine sM hS rfl fun hS => sM hS rfl fun hS => ?_
     obtain ⟨UD, hM⟩ := qt hM
     refine sO hS (u1 rfl rfl Tryz.runUnderlying9 UD) rfl fun hS => sO hS (vI ([.int .u8 ((rd VQ VU).toNat : Int), .int .i64 (0 : Int), .int .i64 (0 : Int)]) [(0, 1), (1, 1), (2, 1)] Tryz.zeroValue119 Tryz.runUnderlying119 (by intro w; simp [Tryz.sizeOf3, Tryz.sizeOf5]) rfl rfl) rfl fun hS => jn 0 ([.int .u8 ((rd VQ VU).toNat : Int), .int .i64 (0 : Int), .int .i64 (0 : Int)]) ([.int .u8 ((rd VQ VU).toNat : Int), .int .i64 (0 : Int), .int .i64 (0 : Int)]) hS rfl rfl V7 rfl rfl Tryz.sizeOf119 (by simp [Value.oneCell']) (Nat.le_of_ble_eq_true rfl) rfl fun w UJ Ut hS => qL <| qc ?_
     exact Ue _ _ ⟨((rd VQ VU).toNat : Int), (0 : Int), (0 : Int), UJ, hS.to [1, 2, 3, 0] (by kernel_rfl) ⟨rfl, rfl, rfl, rfl, rfl, trivial⟩, Ut, hM⟩
    ·refine wp_skip ?_
     refine qc ?_
     exact Ue _ _ ⟨(0 : Int), VZ, VW, UI, hS.to [1, 2, 3, 0] (by kernel_rfl) ⟨rfl, rfl, rfl, rfl, rfl, trivial⟩, V7, hM⟩
   ·intro a w hI
    obtain ⟨VS, VO, VP, Ui, hS, Ud, hM⟩ := hI
    rw [z4.j2] at hM
    refine qe <| sM hS rfl fun hS => sO hS (yz 3 rfl Ud rfl ([.int .u8 VS, .int .i64 VO, .int .i64 VP]) rfl rfl Tryz.isAgg119 Tryz.sizeOf119) rfl fun hS => Qh (g := qH.cells) ([(qH.mk VS VO VP)] : List qH) [.agg ⟨[.int .u8 VS, .int .i64 VO, .int .i64 VP]⟩] hS Tryz.runUnderlying92 Tryz.sizeOf119 X.el119 rfl rfl rfl (by simp [Value.cells]) rfl rfl rfl rfl rfl fun w UN UR UU Uy hS => ?_
    obtain ⟨UE, hM⟩ := qt hM
    refine QR (ys := ([(qH.mk VS VO VP)] : List qH)) 3 hS rfl rfl Uh rfl (Uy.rd (i := 0) rfl) Tryz.runUnderlying92 Tryz.runUnderlying92 X.el119 (fun _ => rfl) rfl Yo UE rfl fun V8 w Ul Uo Uj hz Uz hS => ?_
    have hM := qp hz hM; clear hz
    refine sA hS rfl fun hS => qm <| qe <| sO hS (zz rfl Tryz.runUnderlying119 rfl Tryz.sizeOf3 rfl) rfl fun hS => sO hS (zU 4 rfl Ud rfl rfl Tryz.isAgg3) rfl fun hS => sO hS (Ym rfl rfl) rfl fun hS => sM hS rfl fun hS => qm <| z3 <| q6 (fun UF a w => ∃ (VT : (List ((List Int) × (List Int)))) (V6 : qj) (V2 : Int) (Ub : Int), Ss 41 [] [(0, qN VQ), (3, qx V4 0), (4, .slice Ul V8.length Uo), (5, .int .i64 V2), (31, .int .i64 (if VO > (1 : Int) then VO else (1 : Int))), (32, .int .i64 Ub)] H [VX, V6, Uj] F a w ∧ (Qv (X0 .u8) (X2 3) 3 (ci .i64) 1 V0 VT V6) ∧ (z4.l3 K (z4.l1 K VQ V9) VQ VO V8 UF VT V2 Ub).wp kr kp) K ?_ ?_ ?_
    ·exact ⟨VR, VY, VU, (0 : Int), hS.to [1, 2, 3] (by kernel_rfl) ⟨rfl, rfl, rfl, rfl, rfl, rfl, trivial⟩, Uf, hM⟩
    ·intro a w hI; obtain ⟨_, _, _, _, _, _, hM⟩ := hI; exact qX hM
    ·intro UF a w hI UP Uu
     obtain ⟨VT, V6, V2, Ub, hS, Ug, hM⟩ := hI
     rw [z4.l3] at hM
     refine qe <| sB hS rfl fun hS => qm <| wp_seq <| qo hS rfl hM (fun UC hM => ?_) (fun UC hM => ?_)
     ·refine wp_skip ?_
      refine qc <| wp_seq <| z3 <| qe <| sM hS rfl fun hS => sM hS rfl fun hS => qq hS rfl Tryz.call82 (ue hG K (z2.mk VQ VT) V2 V4 VX V0 V6 Uc Ug (hS.st.part 2 [0, 1, 2] (by kernel_rfl)) (qh hM) (fun Ua Uq w hM UK hst => qn hS.ev hst.appF rfl fun hS => ?_))
      replace hS : Ss _ _ _ H [VX, Uq, Uj] F _ _ := hS
      refine qm <| zb <| sM hS rfl fun hS => sB hS rfl fun hS => qY (v := Value.int .i64) (x0 := (qi (V2 + (1 : Int)))) hS (zE rfl) rfl fun UL a w hz hS => ?_
      have hM := qp hz hM; clear hz
      refine qL <| qW (qc ?_)
      refine zb <| sB hS rfl fun hS => sM hS rfl fun hS => qL <| qc ?_
      exact Uu _ _ ⟨Ua, Uq, UL, (qi (Ub + (1 : Int))), hS.to [0, 1, 2] (by kernel_rfl) ⟨rfl, rfl, rfl, rfl, rfl, rfl, trivial⟩, UK, hM⟩
     ·refine wp_exit ?_
      refine qv (qv (qO (qW (qc ?_))))
      exact Uv _ _ ⟨VT, V6, Ul, Uo, V8, Uj, V2, hS.to [0, 1, 2] (by kernel_rfl) ⟨rfl, rfl, rfl, rfl, trivial⟩, Ug, Uz, hM⟩
  ·refine wp_exit ?_
   refine qv (qv (qO (qc ?_)))
   refine qe <| sM hS rfl fun hS => sA hS rfl fun hS => qm <| wp_ret ?_
   exact qP (rs := [2]) hS rfl rfl (hret V3 V5 VV V1 _ (qG hM) Uh (hS.st.pick [2] (by kernel_rfl)))
theorem uT {H : z7} {F : List qj} {w : World} {R : Ending → World → Prop} {kr : (List UInt8) → Prop} {kp : Value → Prop} (hG : Gl H) (K : Nat) (VZ : List UInt8)
    (hS : St w H [] F) (hm : (zT.m K VZ).wp kr kp)
    (hret : ∀ (Ub : List UInt8) (w : World), kr Ub → St w H [] F → R (.returned (qN Ub)) w) :
    Calls Tryz.prog 68 ⟨[qN VZ]⟩ w R := by
 refine enter Tryz.func68 rfl Tryz.ntmps68 rfl hS fun a w hS => ?_
 have hM := hm; clear hm
 rw [zT.m] at hM
 refine qe <| sA hS rfl fun hS => qm <| qe <| sA hS rfl fun hS => ?_
 obtain ⟨Ue, V1, hS⟩ := hS.nilV 5 (ci .u8) 1
 refine qm <| z3 <| q6 (fun VY a w => ∃ (VR : List UInt8) (VS : Option Addr) (VT : Nat) (VQ : (List Int)) (VU : qj), Ss 41 [] [(0, qN VR), (3, .slice VS VQ.length VT)] H [VU] F a w ∧ (zM 5 (ci .u8) 1 VS VQ VT VU) ∧ (zT.l1 K VY VR VQ).wp kr kp) K ?_ ?_ ?_
 ·exact ⟨VZ, none, 0, ([] : List Int), Ue, hS.to [0] (by kernel_rfl) ⟨rfl, rfl, trivial⟩, V1, hM⟩
 ·intro a w hI; obtain ⟨_, _, _, _, _, _, _, hM⟩ := hI; exact qX hM
 ·intro VY a w hI Um V0
  obtain ⟨VR, VS, VT, VQ, VU, hS, V2, hM⟩ := hI
  rw [zT.l1] at hM
  refine z3 <| qe <| sM hS rfl fun hS => sO hS (ye rfl Tryz.runUnderlying9) rfl fun hS => sO hS (Xq rfl rfl) rfl fun hS => qY (v := Value.int .i64) (x0 := (if (VR.length : Int) < (65535 : Int) then (VR.length : Int) else (65535 : Int))) hS (zE rfl) rfl fun VO a w hz hS => ?_
  have hM := qp hz hM; clear hz
  refine qm <| qe <| sA hS rfl fun hS => qm <| qV (fun a w => ∃ (VP : Int), Ss 41 [] [(0, qN VR), (3, .slice VS VQ.length VT), (4, .int .i64 VO), (5, .int .u8 VP)] H [VU] F a w ∧ (zT.j2 K (zT.l1 K VY) VR VQ VO VP).wp kr kp) (fun Ul VV => ?_) ?_
  ·refine wp_seq ?_
   refine zb <| sM hS rfl fun hS => sM hS rfl fun hS => sO hS (ye rfl Tryz.runUnderlying9) rfl fun hS => sB hS rfl fun hS => qm <| qo hS rfl hM (fun V5 hM => ?_) (fun V5 hM => ?_)
   ·refine zb ?_
    refine sA hS rfl fun hS => qL <| qc ?_
    exact VV _ _ ⟨(1 : Int), hS.to [0] (by kernel_rfl) ⟨rfl, rfl, rfl, rfl, trivial⟩, hM⟩
   ·refine wp_skip ?_
    refine qc ?_
    exact VV _ _ ⟨(0 : Int), hS.to [0] (by kernel_rfl) ⟨rfl, rfl, rfl, rfl, trivial⟩, hM⟩
  ·intro a w hI
   obtain ⟨VP, hS, hM⟩ := hI
   rw [zT.j2] at hM
   refine qe <| sM hS rfl fun hS => sM hS rfl fun hS => sM hS rfl fun hS => sO hS (yT rfl Tryz.runUnderlying3 Tryz.runUnderlying5) rfl fun hS => sM hS rfl fun hS => sO hS (shr rfl rfl rfl) rfl fun hS => sO hS (yT rfl Tryz.runUnderlying3 Tryz.runUnderlying5) rfl fun hS => sM hS rfl fun hS => sO hS (yT rfl Tryz.runUnderlying3 Tryz.runUnderlying5) rfl fun hS => sO hS (un rfl rfl) rfl fun hS => sM hS rfl fun hS => sO hS (shr rfl rfl rfl) rfl fun hS => sO hS (yT rfl Tryz.runUnderlying3 Tryz.runUnderlying5) rfl fun hS => sO hS (un rfl rfl) rfl fun hS => Qh (g := (ci .u8)) ([VP, (wr .u8 VO), (wr .u8 (zX .i64 VO (8 : Int))), (vW .u8 (wr .u8 VO)), (vW .u8 (wr .u8 (zX .i64 VO (8 : Int))))] : List Int) [.int .u8 VP, .int .u8 (wr .u8 VO), .int .u8 (wr .u8 (zX .i64 VO (8 : Int))), .int .u8 (vW .u8 (wr .u8 VO)), .int .u8 (vW .u8 (wr .u8 (zX .i64 VO (8 : Int))))] hS Tryz.runUnderlying44 Tryz.sizeOf5 X.el5 rfl rfl rfl (by simp [Value.cells]) rfl rfl rfl rfl rfl fun w Uj Un Up V3 hS => ?_
   obtain ⟨V7, hM⟩ := qt hM
   refine QR (ys := ([VP, (wr .u8 VO), (wr .u8 (zX .i64 VO (8 : Int))), (vW .u8 (wr .u8 VO)), (vW .u8 (wr .u8 (zX .i64 VO (8 : Int))))] : List Int)) 1 hS rfl rfl V2 rfl (V3.rd (i := 0) rfl) Tryz.runUnderlying44 Tryz.runUnderlying44 X.el5 (fun _ => rfl) rfl jc V7 rfl fun Ui w Uk Uo Uq hz V4 hS => ?_
   have hM := qp hz hM; clear hz
   refine sA hS rfl fun hS => qm <| qe <| sM hS rfl fun hS => sM hS rfl fun hS => sM hS rfl fun hS => ?_
   obtain ⟨V8, hM⟩ := qt hM
   refine sO hS (Xj rfl Tryz.runUnderlying9 YF (Xn rfl) V8) rfl fun hS => ?_
   obtain ⟨V9, hM⟩ := qt hM
   refine JR 1 hS rfl rfl V4 rfl Tryz.runUnderlying44 Tryz.runUnderlying9 X.el5 rfl V9 rfl fun VX w Uc Ud Uf hz VW hS => ?_
   have hM := qp hz hM; clear hz
   refine sA hS rfl fun hS => qm <| qe <| sM hS rfl fun hS => sM hS rfl fun hS => ?_
   obtain ⟨Ua, hM⟩ := qt hM
   refine sO hS (Xj rfl Tryz.runUnderlying9 (XI rfl) Yy Ua) rfl fun hS => qY (v := qN) (x0 := (sub VR VO (VR.length : Int))) hS (zE rfl) rfl fun Ug a w hz hS => ?_
   have hM := qp hz hM; clear hz
   refine qm <| qe <| sM hS rfl fun hS => sB hS rfl fun hS => qm <| qo hS rfl hM (fun V6 hM => ?_) (fun V6 hM => ?_)
   ·refine wp_seq ?_
    refine zb <| sM hS rfl fun hS => sO hS (XZ rfl Tryz.runUnderlying44 Tryz.runUnderlying5 Tryz.runUnderlying9 (VW.rd (i := 1) rfl)) rfl fun hS => qY (v := qN) (x0 := (VX.map jo)) hS (zE rfl) rfl fun Uh a w hz hS => ?_
    have hM := qp hz hM; clear hz
    refine qm <| wp_ret <| zc (qu (zc ?_))
    exact qP (rs := [2]) hS rfl rfl (hret Uh _ (qG hM) (hS.st.pick [] (by kernel_rfl)))
   ·refine wp_skip ?_
    refine qW (qc ?_)
    exact V0 _ _ ⟨Ug, Uc, Ud, VX, Uf, hS.to [1] (by kernel_rfl) ⟨rfl, rfl, trivial⟩, VW, hM⟩
theorem Zw {H : z7} {F : List qj} {w : World} {R : Ending → World → Prop} {kr : Bool → Prop} {kp : Value → Prop} (hG : Gl H) (K : Nat) (VO : qH)
    (hS : St w H [] F) (hm : (uo.m K VO).wp kr kp)
    (hret : ∀ (VR : Bool) (w : World), kr VR → St w H [] F → R (.returned (.bool VR)) w) :
    Calls Tryz.prog 134 ⟨[.agg ⟨[.int .u8 VO.Lit_, .int .i64 VO.Len_, .int .i64 VO.Dist_]⟩]⟩ w R := by
 refine enter Tryz.func134 rfl Tryz.ntmps134 rfl hS fun a w hS => ?_
 have hM := hm; clear hm
 rw [uo.m] at hM
 refine qe <| bx ([.int .u8 VO.Lit_, .int .i64 VO.Len_, .int .i64 VO.Dist_]) hS rfl rfl rfl fun w VU VV VP hS => sA hS rfl fun hS => qm <| wp_seq <| qe <| sO hS (zz rfl Tryz.runUnderlying119 rfl Tryz.sizeOf3 rfl) rfl fun hS => sO hS (zU 0 rfl VP rfl rfl Tryz.isAgg3) rfl fun hS => sB hS rfl fun hS => qm <| qo hS rfl hM (fun VQ hM => ?_) (fun VQ hM => ?_)
 ·refine wp_seq ?_
  refine zb <| sO hS (zz rfl Tryz.runUnderlying119 rfl Tryz.sizeOf3 rfl) rfl fun hS => sO hS (zU 0 rfl VP rfl rfl Tryz.isAgg3) rfl fun hS => sB hS rfl fun hS => qY (v := Value.bool) (x0 := (VO.Len_ == (0 : Int))) hS (zE rfl) rfl fun VS a w hz hS => ?_
  have hM := qp hz hM; clear hz
  refine qm <| wp_ret <| qu ?_
  exact qP (rs := [2]) hS rfl rfl (hret VS _ (qG hM) (hS.st.pick [] (by kernel_rfl)))
 ·refine wp_skip ?_
  refine qc <| qe <| sO hS (zz rfl Tryz.runUnderlying119 rfl Tryz.sizeOf3 rfl) rfl fun hS => sO hS (zU 0 rfl VP rfl rfl Tryz.isAgg3) rfl fun hS => sB hS rfl fun hS => sM hS rfl fun hS => xm 3 true 12 (b := (decide (VO.Dist_ > (0 : Int)))) (r := (decide (VO.Dist_ ≤ (32768 : Int)))) hS rfl rfl rfl rfl rfl rfl rfl (fun hb a w hS K hK => ?_) rfl fun a w hS => ?_
  ·refine qI hS rfl rfl rfl hb (zz rfl Tryz.runUnderlying119 rfl Tryz.sizeOf3 rfl) rfl fun a w hS => ?_
   refine qI hS rfl rfl rfl hb (zU 0 rfl VP rfl rfl Tryz.isAgg3) rfl fun a w hS => qI hS rfl rfl rfl hb (xN rfl rfl rfl) rfl fun a w hS => ?_
   exact qL (hK _ _ (hS.up 3 rfl rfl))
  refine sM hS rfl fun hS => xm 3 true 17 (b := ((decide (VO.Dist_ > (0 : Int))) && (decide (VO.Dist_ ≤ (32768 : Int))))) (r := (decide (VO.Len_ ≥ (3 : Int)))) hS rfl rfl rfl rfl rfl rfl rfl (fun hb a w hS K hK => ?_) rfl fun a w hS => ?_
  ·refine qI hS rfl rfl rfl hb (zz rfl Tryz.runUnderlying119 rfl Tryz.sizeOf3 rfl) rfl fun a w hS => ?_
   refine qI hS rfl rfl rfl hb (zU 0 rfl VP rfl rfl Tryz.isAgg3) rfl fun a w hS => qI hS rfl rfl rfl hb (xN rfl rfl rfl) rfl fun a w hS => ?_
   exact qL (hK _ _ (hS.up 3 rfl rfl))
  refine sM hS rfl fun hS => xm 3 true 22 (b := (((decide (VO.Dist_ > (0 : Int))) && (decide (VO.Dist_ ≤ (32768 : Int)))) && (decide (VO.Len_ ≥ (3 : Int))))) (r := (decide (VO.Len_ ≤ (258 : Int)))) hS rfl rfl rfl rfl rfl rfl rfl (fun hb a w hS K hK => ?_) rfl fun a w hS => ?_
  ·refine qI hS rfl rfl rfl hb (zz rfl Tryz.runUnderlying119 rfl Tryz.sizeOf3 rfl) rfl fun a w hS => ?_
   refine qI hS rfl rfl rfl hb (zU 0 rfl VP rfl rfl Tryz.isAgg3) rfl fun a w hS => qI hS rfl rfl rfl hb (xN rfl rfl rfl) rfl fun a w hS => ?_
   exact qL (hK _ _ (hS.up 3 rfl rfl))
  refine sM hS rfl fun hS => xm 3 true 27 (b := ((((decide (VO.Dist_ > (0 : Int))) && (decide (VO.Dist_ ≤ (32768 : Int)))) && (decide (VO.Len_ ≥ (3 : Int)))) && (decide (VO.Len_ ≤ (258 : Int))))) (r := (VO.Lit_ == (0 : Int))) hS rfl rfl rfl rfl rfl rfl rfl (fun hb a w hS K hK => ?_) rfl fun a w hS => ?_
  ·refine qI hS rfl rfl rfl hb (zz rfl Tryz.runUnderlying119 rfl Tryz.sizeOf5 rfl) rfl fun a w hS => ?_
   refine qI hS rfl rfl rfl hb (zU 0 rfl VP rfl rfl Tryz.isAgg5) rfl fun a w hS => qI hS rfl rfl rfl hb (xN rfl rfl rfl) rfl fun a w hS => ?_
   exact qL (hK _ _ (hS.up 3 rfl rfl))
  refine qY (v := Value.bool) (x0 := (((((decide (VO.Dist_ > (0 : Int))) && (decide (VO.Dist_ ≤ (32768 : Int)))) && (decide (VO.Len_ ≥ (3 : Int)))) && (decide (VO.Len_ ≤ (258 : Int)))) && (VO.Lit_ == (0 : Int)))) hS (zE rfl) rfl fun VT a w hz hS => ?_
  have hM := qp hz hM; clear hz
  refine qm <| wp_ret ?_
  exact qP (rs := [2]) hS rfl rfl (hret VT _ (qG hM) (hS.st.pick [] (by kernel_rfl)))
theorem vE {H : z7} {F : List qj} {w : World} {R : Ending → World → Prop} {kr : Int → Prop} {kp : Value → Prop} (hG : Gl H) (K : Nat) (VR : Int) (VO : Int)
    (hS : St w H [] F) (hm : (yg.m K VR VO).wp kr kp)
    (hret : ∀ (VY : Int) (w : World), kr VY → St w H [] F → R (.returned (.int .i64 VY)) w) :
    Calls Tryz.prog 136 ⟨[.int .i64 VR, .int .i64 VO]⟩ w R := by
 refine enter Tryz.func136 rfl Tryz.ntmps136 rfl hS fun a w hS => ?_
 have hM := hm; clear hm
 rw [yg.m] at hM
 refine qe <| sA hS rfl fun hS => qm <| qe <| sA hS rfl fun hS => qm <| wp_seq <| z3 <| q6 (fun VV a w => ∃ (VQ : Int) (VP : Int), Ss 15 [] [(0, .int .i64 VQ), (1, .int .i64 VO), (5, .int .i64 VP)] H [] F a w ∧ (yg.l1 K VO VV VQ VP).wp kr kp) K ?_ ?_ ?_
 ·exact ⟨VR, (0 : Int), hS.to [] (by kernel_rfl) ⟨rfl, rfl, rfl, trivial⟩, hM⟩
 ·intro a w hI; obtain ⟨_, _, _, hM⟩ := hI; exact qX hM
 ·intro VV a w hI VZ VS
  obtain ⟨VQ, VP, hS, hM⟩ := hI
  rw [yg.l1] at hM
  refine wp_seq <| qe <| sM hS rfl fun hS => sM hS rfl fun hS => ?_
  obtain ⟨VU, hM⟩ := qt hM
  refine sO hS (shl rfl rfl VU) rfl fun hS => sB hS rfl fun hS => qm <| qo hS rfl hM (fun VT hM => ?_) (fun VT hM => ?_)
  ·refine wp_skip ?_
   refine qc <| z3 <| qe <| sM hS rfl fun hS => sO hS (shr rfl rfl rfl) rfl fun hS => qY (v := Value.int .i64) (x0 := (zX .i64 VQ (1 : Int))) hS (zE rfl) rfl fun VX a w hz hS => ?_
   have hM := qp hz hM; clear hz
   refine qm <| zb <| sM hS rfl fun hS => sB hS rfl fun hS => qY (v := Value.int .i64) (x0 := (qi (VP + (1 : Int)))) hS (zE rfl) rfl fun VW a w hz hS => ?_
   have hM := qp hz hM; clear hz
   refine qL <| qW (qc ?_)
   exact VS _ _ ⟨VX, VW, hS.to [] (by kernel_rfl) ⟨rfl, rfl, rfl, trivial⟩, hM⟩
  ·refine wp_exit ?_
   refine qv (qv (qO (qc ?_)))
   refine qe <| sM hS rfl fun hS => sA hS rfl fun hS => qm <| wp_ret ?_
   exact qP (rs := [4]) hS rfl rfl (hret VP _ (qG hM) (hS.st.pick [] (by kernel_rfl)))
theorem uq {H : z7} {F : List qj} {w : World} {R : Ending → World → Prop} {kr : Int → Prop} {kp : Value → Prop} (hG : Gl H) (K : Nat) (VO : Int)
    (hS : St w H [] F) (hm : (jk.m K VO).wp kr kp)
    (hret : ∀ (VR : Int) (w : World), kr VR → St w H [] F → R (.returned (.int .i64 VR)) w) :
    Calls Tryz.prog 135 ⟨[.int .i64 VO]⟩ w R := by
 refine enter Tryz.func135 rfl Tryz.ntmps135 rfl hS fun a w hS => ?_
 have hM := hm; clear hm
 rw [jk.m] at hM
 refine qe <| sA hS rfl fun hS => qm <| wp_seq <| z3 <| qe <| sM hS rfl fun hS => sB hS rfl fun hS => qY (v := Value.bool) (x0 := (VO == (258 : Int))) hS (zE rfl) rfl fun VW a w hz hS => ?_
 have hM := qp hz hM; clear hz
 refine qm <| qo hS rfl hM (fun VP hM => ?_) (fun VP hM => ?_)
 ·refine wp_seq ?_
  refine zb <| sA hS rfl fun hS => qm <| wp_ret <| zc (qu ?_)
  exact qP (rs := [2]) hS rfl rfl (hret (8 : Int) _ (qG hM) (hS.st.pick [] (by kernel_rfl)))
 ·refine wp_seq ?_
  refine zb <| sM hS rfl fun hS => sB hS rfl fun hS => qY (v := Value.bool) (x0 := (decide (VO ≥ (115 : Int)))) hS (zE rfl) rfl fun VX a w hz hS => ?_
  have hM := qp hz hM; clear hz
  refine qm <| qo hS rfl hM (fun VQ hM => ?_) (fun VQ hM => ?_)
  ·refine wp_seq ?_
   refine zb <| sM hS rfl fun hS => sB hS rfl fun hS => qq hS rfl Tryz.call136 (vE hG K (qi (VO - (3 : Int))) (2 : Int) (hS.st.part 0 [] (by kernel_rfl)) (qh hM) (fun VU w hM  hst => qn hS.ev hst.appF rfl fun hS => ?_))
   replace hS : Ss _ _ _ H [] F _ _ := hS
   refine sB hS rfl fun hS => qY (v := Value.int .i64) (x0 := (qi ((8 : Int) + VU))) hS (zE rfl) rfl fun VS a w hz hS => ?_
   have hM := qp hz hM; clear hz
   refine qm <| wp_ret <| zc (qu ?_)
   exact qP (rs := [2]) hS rfl rfl (hret VS _ (qG hM) (hS.st.pick [] (by kernel_rfl)))
  ·refine wp_skip ?_
   refine qW (qc ?_)
   refine qe <| sM hS rfl fun hS => sB hS rfl fun hS => qq hS rfl Tryz.call136 (vE hG K (qi (VO - (3 : Int))) (2 : Int) (hS.st.part 0 [] (by kernel_rfl)) (qh hM) (fun VV w hM  hst => qn hS.ev hst.appF rfl fun hS => ?_))
   replace hS : Ss _ _ _ H [] F _ _ := hS
   refine sB hS rfl fun hS => qY (v := Value.int .i64) (x0 := (qi ((7 : Int) + VV))) hS (zE rfl) rfl fun VT a w hz hS => ?_
   have hM := qp hz hM; clear hz
   refine qm <| wp_ret ?_
   exact qP (rs := [2]) hS rfl rfl (hret VT _ (qG hM) (hS.st.pick [] (by kernel_rfl)))
theorem Zu {H : z7} {F : List qj} {w : World} {R : Ending → World → Prop} {kr : (Int × Int) → Prop} {kp : Value → Prop} (hG : Gl H) (K : Nat) (VO : List qH) (VW : Option Addr) (VX : Nat) (V0 : yU H [] F qH.cells VW VO) (Ue : VO.length ≤ VX)
    (hS : St w H [] F) (hm : (yf.m K VO).wp kr kp)
    (hret : ∀ (Ub : Int) (Uc : Int) (w : World), kr (Ub, Uc) → St w H [] F → R (.returned (.tuple ⟨[.int .i64 Ub, .int .i64 Uc]⟩)) w) :
    Calls Tryz.prog 109 ⟨[.slice VW VO.length VX]⟩ w R := by
 refine enter Tryz.func109 rfl Tryz.ntmps109 rfl hS fun a w hS => ?_
 have hM := hm; clear hm
 rw [yf.m] at hM
 refine qe <| sA hS rfl fun hS => sA hS rfl fun hS => qm <| qe <| sA hS rfl fun hS => qm <| wp_seq <| qe <| sM hS rfl fun hS => sO hS (xw rfl Tryz.runUnderlying92) rfl fun hS => sM hS rfl fun hS => qm <| z3 <| q6 (fun V8 a w => ∃ (VQ : Int) (VP : Int), Ss 47 [] [(4, .int .i64 VQ), (7, .slice VW VO.length VX), (8, .int .i64 (VO.length : Int)), (9, .int .i64 VP)] H [] F a w ∧ (yf.l1 K VO V8 VQ VP).wp kr kp) K ?_ ?_ ?_
 ·exact ⟨(7 : Int), (0 : Int), hS.to [] (by kernel_rfl) ⟨rfl, rfl, rfl, rfl, trivial⟩, hM⟩
 ·intro a w hI; obtain ⟨_, _, _, hM⟩ := hI; exact qX hM
 ·intro V8 a w hI Uf VU
  obtain ⟨VQ, VP, hS, hM⟩ := hI
  rw [yf.l1] at hM
  refine qe <| sB hS rfl fun hS => qm <| wp_seq <| qo hS rfl hM (fun V4 hM => ?_) (fun V4 hM => ?_)
  ·refine wp_skip ?_
   refine qc <| wp_seq <| z3 <| wp_seq <| zb ?_
   obtain ⟨VZ, hM⟩ := qt hM
   refine sO hS (xF rfl rfl Tryz.runUnderlying92 Tryz.sizeOf119 V0.wk (fun _ => rfl) rfl VZ) rfl fun hS => sO hS (jj rfl V0.wk (fun _ => rfl) VZ Tryz.isAgg119 Tryz.sizeOf119 rfl) rfl fun hS => jz ([.int .u8 (0 : Int), .int .i64 (0 : Int), .int .i64 (0 : Int)]) hS Tryz.zeroValue119 rfl rfl fun w VT Ug V3 hS => jn 0 ([.int .u8 ((rd VO VP).Lit_), .int .i64 ((rd VO VP).Len_), .int .i64 ((rd VO VP).Dist_)]) ([.int .u8 ((rd VO VP).Lit_), .int .i64 ((rd VO VP).Len_), .int .i64 ((rd VO VP).Dist_)]) hS rfl rfl V3 rfl rfl Tryz.sizeOf119 (by simp [Value.oneCell']) (Nat.le_of_ble_eq_true rfl) rfl fun w V2 VR hS => qm <| z3 <| qe <| sO hS (yz 0 rfl VR rfl ([.int .u8 ((rd VO VP).Lit_), .int .i64 ((rd VO VP).Len_), .int .i64 ((rd VO VP).Dist_)]) rfl rfl Tryz.isAgg119 Tryz.sizeOf119) rfl fun hS => qq hS rfl Tryz.call134 (Zw hG K (qH.mk ((rd VO VP).Lit_) ((rd VO VP).Len_) ((rd VO VP).Dist_)) (hS.st.part 0 [0] (by kernel_rfl)) (qh hM) (fun Ud w hM  hst => qn hS.ev hst.appF rfl fun hS => ?_))
   replace hS : Ss _ _ _ H [V2] F _ _ := hS
   refine sO hS (un rfl rfl) rfl fun hS => qY (v := Value.bool) (x0 := (!Ud)) hS (zE rfl) rfl fun Uh a w hz hS => ?_
   have hM := qp hz hM; clear hz
   refine qm <| qo hS rfl hM (fun V5 hM => ?_) (fun V5 hM => ?_)
   ·refine wp_seq ?_
    refine zb <| sA hS rfl fun hS => sA hS rfl fun hS => qm <| wp_ret <| zc (zc (qu (qu (zc (qu ?_)))))
    exact qP (rs := [2, 3]) hS rfl rfl (hret (0 : Int) (1 : Int) _ (qG hM) (hS.st.pick [] (by kernel_rfl)))
   ·refine wp_seq ?_
    refine zb <| sO hS (zz rfl Tryz.runUnderlying119 rfl Tryz.sizeOf3 rfl) rfl fun hS => sO hS (zU 0 rfl VR rfl rfl Tryz.isAgg3) rfl fun hS => sB hS rfl fun hS => sM hS rfl fun hS => xm 3 true 32 (b := ((rd VO VP).Dist_ == (0 : Int))) (r := (decide ((rd VO VP).Lit_ < (144 : Int)))) hS rfl rfl rfl rfl rfl rfl rfl (fun hb a w hS K hK => ?_) rfl fun a w hS => ?_
    ·refine qI hS rfl rfl rfl hb (zz rfl Tryz.runUnderlying119 rfl Tryz.sizeOf5 rfl) rfl fun a w hS => ?_
     refine qI hS rfl rfl rfl hb (zU 0 rfl VR rfl rfl Tryz.isAgg5) rfl fun a w hS => qI hS rfl rfl rfl hb (xN rfl rfl rfl) rfl fun a w hS => ?_
     exact qL (hK _ _ (hS.up 3 rfl rfl))
    refine qY (v := Value.bool) (x0 := (((rd VO VP).Dist_ == (0 : Int)) && (decide ((rd VO VP).Lit_ < (144 : Int))))) hS (zE rfl) rfl fun Ui a w hz hS => ?_
    have hM := qp hz hM; clear hz
    refine qm <| qo hS rfl hM (fun V6 hM => ?_) (fun V6 hM => ?_)
    ·refine zb ?_
     refine sM hS rfl fun hS => sB hS rfl fun hS => qY (v := Value.int .i64) (x0 := (qi (VQ + (8 : Int)))) hS (zE rfl) rfl fun V9 a w hz hS => ?_
     have hM := qp hz hM; clear hz
     refine qL <| qW (qW (qc ?_))
     refine zb <| sB hS rfl fun hS => sM hS rfl fun hS => qL <| qc ?_
     exact VU _ _ ⟨V9, (qi (VP + (1 : Int))), hS.to [] (by kernel_rfl) ⟨rfl, rfl, rfl, rfl, trivial⟩, hM⟩
    ·refine wp_seq ?_
     refine zb <| sO hS (zz rfl Tryz.runUnderlying119 rfl Tryz.sizeOf3 rfl) rfl fun hS => sO hS (zU 0 rfl VR rfl rfl Tryz.isAgg3) rfl fun hS => sB hS rfl fun hS => qY (v := Value.bool) (x0 := ((rd VO VP).Dist_ == (0 : Int))) hS (zE rfl) rfl fun Uj a w hz hS => ?_
     have hM := qp hz hM; clear hz
     refine qm <| qo hS rfl hM (fun V7 hM => ?_) (fun V7 hM => ?_)
     ·refine zb ?_
      refine sM hS rfl fun hS => sB hS rfl fun hS => qY (v := Value.int .i64) (x0 := (qi (VQ + (9 : Int)))) hS (zE rfl) rfl fun Ua a w hz hS => ?_
      have hM := qp hz hM; clear hz
      refine qL <| qW (qW (qc ?_))
      refine zb <| sB hS rfl fun hS => sM hS rfl fun hS => qL <| qc ?_
      exact VU _ _ ⟨Ua, (qi (VP + (1 : Int))), hS.to [] (by kernel_rfl) ⟨rfl, rfl, rfl, rfl, trivial⟩, hM⟩
     ·refine qM (vals := [some (.int .i64 VQ), some (qx VT 1), some (.int .i64 ((rd VO VP).Len_)), none, none, some (qx VT 2), some (.int .i64 ((rd VO VP).Dist_)), some (.int .i64 (qi ((rd VO VP).Dist_ - (1 : Int)))), none, none, none, none]) hS zV rfl ?_
      intro l w ho hcl hA hst
      refine x4 hA hst ho hcl zO zW 3 [0, 1, 2, 5, 6, 7] rfl rfl rfl rfl rfl (by exact ⟨nM rfl, nQ rfl (by exact qJ (zz rfl Tryz.runUnderlying119 rfl Tryz.sizeOf3 rfl) rfl), nQ rfl (by exact qJ (zU 0 rfl VR rfl rfl Tryz.isAgg3) rfl), nQ rfl (by exact qJ (zz rfl Tryz.runUnderlying119 rfl Tryz.sizeOf3 rfl) rfl), nQ rfl (by exact qJ (zU 0 rfl VR rfl rfl Tryz.isAgg3) rfl), nB rfl, trivial⟩) fun D l a w ho hcl hav hpre hm hE hk hA hst => ?_
      have hS := (Ss.mk hE hst).env2 (e' := [(15, .int .i64 ((rd VO VP).Len_))]) ⟨rfl, trivial⟩
      refine qC rfl <| qq hS rfl Tryz.call135 (uq hG K ((rd VO VP).Len_) (hS.st.part 0 [0] (by kernel_rfl)) (qh hM) (fun VS w hM  hst => qn hS.ev hst.appF rfl fun hS => ?_))
      replace hS : Ss _ _ _ H [V2] F _ _ := hS
      refine qm ?_
      replace hst := hS.st
      obtain ⟨hcl, hmust, hav2, hA⟩ := dn (vals' := [some (.int .i64 VQ), some (qx VT 1), some (.int .i64 ((rd VO VP).Len_)), some (.int .i64 VS), some (.int .i64 (qi (VS + (5 : Int)))), some (qx VT 2), some (.int .i64 ((rd VO VP).Dist_)), some (.int .i64 (qi ((rd VO VP).Dist_ - (1 : Int)))), none, none, none, none]) 3 [(2, 3), (1, 2)] hA hcl hav hm hpre hk rfl rfl rfl rfl rfl rfl rfl
      clear hm hav
      refine x4 hA hst ho hcl hav2 hmust 8 [0, 4, 5, 6, 7] rfl rfl rfl rfl rfl (by exact ⟨nM rfl, nB rfl, nQ rfl (by exact qJ (zz rfl Tryz.runUnderlying119 rfl Tryz.sizeOf3 rfl) rfl), nQ rfl (by exact qJ (zU 0 rfl VR rfl rfl Tryz.isAgg3) rfl), nB rfl, trivial⟩) fun D l a w ho hcl hav hpre hm hE hk hA hst => ?_
      have hS := (Ss.mk hE hst).env2 (e' := [(20, .int .i64 (qi ((rd VO VP).Dist_ - (1 : Int))))]) ⟨rfl, trivial⟩
      refine qC rfl <| qq hS rfl Tryz.call136 (vE hG K (qi ((rd VO VP).Dist_ - (1 : Int))) (1 : Int) (hS.st.part 0 [0] (by kernel_rfl)) (qh hM) (fun VY w hM  hst => qn hS.ev hst.appF rfl fun hS => ?_))
      replace hS : Ss _ _ _ H [V2] F _ _ := hS
      refine qm ?_
      replace hst := hS.st
      obtain ⟨VV, V1⟩ : ∃ x, x = (qi (VQ + (qi ((qi (VS + (5 : Int))) + VY)))) := ⟨_, rfl⟩
      replace hM := qp V1 hM
      obtain ⟨hcl, hmust, hav2, hA⟩ := dn (vals' := [some (.int .i64 VQ), some (qx VT 1), some (.int .i64 ((rd VO VP).Len_)), some (.int .i64 VS), some (.int .i64 (qi (VS + (5 : Int)))), some (qx VT 2), some (.int .i64 ((rd VO VP).Dist_)), some (.int .i64 (qi ((rd VO VP).Dist_ - (1 : Int)))), some (.int .i64 VY), some (.int .i64 (qi ((qi (VS + (5 : Int))) + VY))), some (.int .i64 (qi (VQ + (qi ((qi (VS + (5 : Int))) + VY))))), some (.int .i64 VV)]) 8 [(3, 8), (7, 8), (2, 3), (6, 7), (1, 2), (5, 6)] hA hcl hav hm hpre hk rfl rfl rfl rfl rfl rfl rfl
      clear hm hav
      refine xq hA hst ho hcl hmust [0, 4, 9, 10, 11] rfl rfl rfl (by exact ⟨nM rfl, nB rfl, nB rfl, nB rfl, nQ rfl (by exact qJ (zE rfl) (congrArg (Value.int .i64) V1.symm)), trivial⟩) fun a w hS => ?_
      replace hS := hS.env2 (e' := [(4, .int .i64 VV), (7, .slice VW VO.length VX), (8, .int .i64 (VO.length : Int)), (9, .int .i64 VP)]) ⟨rfl, rfl, rfl, rfl, trivial⟩
      refine qW (qW (qc ?_))
      refine zb <| sB hS rfl fun hS => sM hS rfl fun hS => qL <| qc ?_
      exact VU _ _ ⟨VV, (qi (VP + (1 : Int))), hS.to [] (by kernel_rfl) ⟨rfl, rfl, rfl, rfl, trivial⟩, hM⟩
  ·refine wp_exit ?_
   refine qv (qv (qO (qc ?_)))
   refine qe <| sM hS rfl fun hS => sA hS rfl fun hS => sA hS rfl fun hS => qm <| wp_ret ?_
   exact qP (rs := [2, 3]) hS rfl rfl (hret VQ (0 : Int) _ (qG hM) (hS.st.pick [] (by kernel_rfl)))
theorem vQ {H : z7} {F : List qj} {w : World} {R : Ending → World → Prop} {kr : Bool → Prop} {kp : Value → Prop} (hG : Gl H) (K : Nat) (VO : List qH) (VP : Option Addr) (VQ : Nat) (VS : yU H [] F qH.cells VP VO) (VR : VO.length ≤ VQ)
    (hS : St w H [] F) (hm : (jD.m K VO).wp kr kp)
    (hret : ∀ (VT : Bool) (w : World), kr VT → St w H [] F → R (.returned (.bool VT)) w) :
    Calls Tryz.prog 83 ⟨[.slice VP VO.length VQ]⟩ w R := by
 refine enter Tryz.func83 rfl Tryz.ntmps83 rfl hS fun a w hS => ?_
 have hM := hm; clear hm
 rw [jD.m] at hM
 refine qe <| sA hS rfl fun hS => qm <| qe <| sM hS rfl fun hS => qq hS rfl Tryz.call109 (Zu hG K VO VP VQ (VS.app _) VR (hS.st.part 0 [] (by kernel_rfl)) (qh hM) (fun VW VV w hM  hst => qn hS.ev hst.appF rfl fun hS => ?_))
 replace hS : Ss _ _ _ H [] F _ _ := hS
 refine sM hS rfl fun hS => sO hS (ex rfl rfl) rfl fun hS => sO hS (ex rfl rfl) rfl fun hS => sA hS rfl fun hS => sA hS rfl fun hS => qm <| qe <| sM hS rfl fun hS => sB hS rfl fun hS => qY (v := Value.bool) (x0 := (VV == (0 : Int))) hS (zE rfl) rfl fun VU a w hz hS => ?_
 have hM := qp hz hM; clear hz
 refine qm <| wp_ret ?_
 exact qP (rs := [2]) hS rfl rfl (hret VU _ (qG hM) (hS.st.pick [] (by kernel_rfl)))
theorem vB {H : z7} {F : List qj} {w : World} {R : Ending → World → Prop} {kr : ((List Int) × Bool) → Prop} {kp : Value → Prop} (hG : Gl H) (K : Nat) (VO : List Int) (Uc : Option Addr) (Ud : Nat) (Ua : yU H [] F (ci .i64) Uc VO) (Ut : VO.length ≤ Ud)
    (hS : St w H [] F) (hm : (xB.m K VO).wp kr kp)
    (hret : ∀ (V5 : (List Int)) (Ub : Bool) (w : World), kr (V5, Ub) → (V5.length = 16) → St w H [] F → R (.returned (.tuple ⟨[.agg ⟨V5.flatMap (ci .i64)⟩, .bool Ub]⟩)) w) :
    Calls Tryz.prog 138 ⟨[.slice Uc VO.length Ud]⟩ w R := by
 refine enter Tryz.func138 rfl Tryz.ntmps138 rfl hS fun a w hS => ?_
 have hM := hm; clear hm
 rw [xB.m] at hM
 refine qe <| jz ((List.replicate 16 (0 : Int)).flatMap (ci .i64)) hS Tryz.zeroValue205 rfl rfl fun w VS Uo VY hS => sA hS rfl fun hS => qm <| wp_seq <| qe <| sM hS rfl fun hS => sO hS (xw rfl Tryz.runUnderlying128) rfl fun hS => sB hS rfl fun hS => qm <| qo hS rfl hM (fun Uj hM => ?_) (fun Uj hM => ?_)
 ·refine wp_seq ?_
  refine zb <| sO hS (QX (xs := (List.replicate 16 (0 : Int))) (g := (ci .i64)) (pre := []) (post := []) 0 rfl VY rfl (by simp) rfl (zP (g := (ci .i64)) (sz := 1) (fun _ => rfl) (List.length_replicate ..)) Tryz.isAgg205 Tryz.sizeOf205) rfl fun hS => QZ (xs := (List.replicate 16 (0 : Int))) (ys := (List.replicate 16 (0 : Int))) (g := (ci .i64)) (pre := []) (post := []) 0 hS rfl rfl VY rfl (by simp) rfl (zP (g := (ci .i64)) (sz := 1) (fun _ => rfl) (List.length_replicate ..)) (zP (g := (ci .i64)) (sz := 1) (fun _ => rfl) (List.length_replicate ..)) (xg) Tryz.sizeOf205 fun w Up VZ hS => ?_
  replace VZ : xf Up VS ((List.replicate 16 (0 : Int)).flatMap (ci .i64)) 205 := by simpa using VZ
  refine sA hS rfl fun hS => qm <| wp_ret <| qu ?_
  exact xI (vs := [.agg ⟨(List.replicate 16 (0 : Int)).flatMap (ci .i64)⟩, .bool false]) hS rfl (by exact ⟨JB 0 rfl VZ rfl (zP (g := (ci .i64)) (sz := 1) (fun _ => rfl) (List.length_replicate ..)) Tryz.isAgg205 Tryz.sizeOf205, Xc rfl, trivial⟩) (hret (List.replicate 16 (0 : Int)) false _ (qG hM) (List.length_replicate ..) (hS.st.pick [] (by kernel_rfl)))
 ·refine wp_skip ?_
  refine qc <| qV (fun a w => ∃ (VT : (List Int)) (Ue : qj), Ss 31 [] [(2, qx VS 0)] H [Ue] F a w ∧ (VT.length = 16) ∧ (xf Ue VS (VT.flatMap (ci .i64)) 205) ∧ (xB.j2 K VT).wp kr kp) (fun Uv Ui => ?_) ?_
  ·refine wp_seq ?_
   refine zb <| sM hS rfl fun hS => sO hS (xw rfl Tryz.runUnderlying128) rfl fun hS => sM hS rfl fun hS => qm <| z3 <| q6 (fun Un a w => ∃ (VP : (List Int)) (V7 : qj) (V4 : Int), Ss 31 [] [(2, qx VS 0), (10, .slice Uc VO.length Ud), (11, .int .i64 (VO.length : Int)), (12, .int .i64 V4)] H [V7] F a w ∧ (VP.length = 16) ∧ (xf V7 VS (VP.flatMap (ci .i64)) 205) ∧ (xB.l1 K VO Un VP V4).wp kr kp) K ?_ ?_ ?_
   ·exact ⟨(List.replicate 16 (0 : Int)), Uo, (0 : Int), hS.to [0] (by kernel_rfl) ⟨rfl, rfl, rfl, rfl, trivial⟩, (List.length_replicate ..), VY, hM⟩
   ·intro a w hI; obtain ⟨_, _, _, _, _, _, hM⟩ := hI; exact qX hM
   ·intro Un a w hI Uu Uh
    obtain ⟨VP, V7, V4, hS, VQ, VU, hM⟩ := hI
    rw [xB.l1] at hM
    refine qe <| sB hS rfl fun hS => qm <| wp_seq <| qo hS rfl hM (fun Uk hM => ?_) (fun Uk hM => ?_)
    ·refine wp_skip ?_
     refine qc <| wp_seq <| z3 <| wp_seq <| zb ?_
     obtain ⟨V8, hM⟩ := qt hM
     refine sO hS (xF rfl rfl Tryz.runUnderlying128 Tryz.sizeOf3 Ua.wk (fun _ => rfl) rfl V8) rfl fun hS => sO hS (xO rfl Ua.wk (fun _ => rfl) V8 rfl Tryz.isAgg3) rfl fun hS => qY (v := Value.int .i64) (x0 := (rd VO V4)) hS (zE rfl) rfl fun V3 a w hz hS => ?_
     have hM := qp hz hM; clear hz
     refine qm <| wp_seq <| qe <| sM hS rfl fun hS => sB hS rfl fun hS => sM hS rfl fun hS => xm 2 false 18 (b := (decide (V3 < (0 : Int)))) (r := (decide (V3 > (15 : Int)))) hS rfl rfl rfl rfl rfl rfl rfl (fun hb a w hS K hK => ?_) rfl fun a w hS => ?_
     ·refine qI hS rfl rfl rfl hb (mv rfl) rfl fun a w hS => ?_
      refine qI hS rfl rfl rfl hb (xN rfl rfl rfl) rfl fun a w hS => ?_
      exact qL (hK _ _ (hS.up 2 rfl rfl))
     refine qm <| qo hS rfl hM (fun Ul hM => ?_) (fun Ul hM => ?_)
     ·refine wp_seq ?_
      refine zb <| sO hS (QX (xs := VP) (g := (ci .i64)) (pre := []) (post := []) 0 rfl VU rfl (by simp) rfl (zP (g := (ci .i64)) (sz := 1) (fun _ => rfl) VQ) Tryz.isAgg205 Tryz.sizeOf205) rfl fun hS => QZ (xs := VP) (ys := VP) (g := (ci .i64)) (pre := []) (post := []) 0 hS rfl rfl VU rfl (by simp) rfl (zP (g := (ci .i64)) (sz := 1) (fun _ => rfl) VQ) (zP (g := (ci .i64)) (sz := 1) (fun _ => rfl) VQ) (xg) Tryz.sizeOf205 fun w Uq V0 hS => ?_
      replace V0 : xf Uq VS (VP.flatMap (ci .i64)) 205 := by simpa using V0
      refine sA hS rfl fun hS => qm <| wp_ret <| qu (zc (qu (qu (zc (qu ?_)))))
      exact xI (vs := [.agg ⟨VP.flatMap (ci .i64)⟩, .bool false]) hS rfl (by exact ⟨JB 0 rfl V0 rfl (zP (g := (ci .i64)) (sz := 1) (fun _ => rfl) VQ) Tryz.isAgg205 Tryz.sizeOf205, Xc rfl, trivial⟩) (hret VP false _ (qG hM) VQ (hS.st.pick [] (by kernel_rfl)))
     ·refine wp_skip ?_
      refine qc <| zb <| sM hS rfl fun hS => ?_
      obtain ⟨VX, hM⟩ := qt hM
      refine sO hS (ZH rfl rfl Tryz.runUnderlying205 Tryz.sizeOf3 VX) rfl fun hS => sO hS (Jz (xs := VP) (g := (ci .i64)) (pre := []) (post := []) 0 rfl VU rfl (by simp) rfl (fun _ => rfl) (yE VQ VX) rfl Tryz.isAgg3) rfl fun hS => sB hS rfl fun hS => sO hS (ZH rfl rfl Tryz.runUnderlying205 Tryz.sizeOf3 VX) rfl fun hS => YR (xs := VP) (g := (ci .i64)) (pre := []) (post := []) 0 ((qi ((rd VP V3) + (1 : Int)))) hS rfl rfl VU rfl (by simp) rfl (fun _ => rfl) (yE VQ VX) rfl Tryz.sizeOf3 (xg _) fun V6 w Uf hz V1 hS => ?_
      have Um : V6.length = 16 := by rw [hz, List.length_set]; exact VQ
      have hM := qp hz hM; clear hz
      replace V1 : xf Uf VS (V6.flatMap (ci .i64)) 205 := by simpa using V1
      refine qL <| qW (qc ?_)
      refine zb <| sB hS rfl fun hS => sM hS rfl fun hS => qL <| qc ?_
      exact Uh _ _ ⟨V6, Uf, (qi (V4 + (1 : Int))), hS.to [0] (by kernel_rfl) ⟨rfl, rfl, rfl, rfl, trivial⟩, Um, V1, hM⟩
    ·refine wp_exit ?_
     refine qv (qv (qO (qc ?_)))
     exact Ui _ _ ⟨VP, V7, hS.to [0] (by kernel_rfl) ⟨rfl, trivial⟩, VQ, VU, hM⟩
  ·intro a w hI
   obtain ⟨VT, Ue, hS, V9, Ug, hM⟩ := hI
   rw [xB.j2] at hM
   refine qe <| sO hS (ZH rfl rfl Tryz.runUnderlying205 Tryz.sizeOf3 rfl) rfl fun hS => YR (xs := VT) (g := (ci .i64)) (pre := []) (post := []) 0 ((0 : Int)) hS rfl rfl Ug rfl (by simp) rfl (fun _ => rfl) (yE V9 rfl) rfl Tryz.sizeOf3 (xg _) fun VR w Ur hz VW hS => ?_
   have VV : VR.length = 16 := by rw [hz, List.length_set]; exact V9
   have hM := qp hz hM; clear hz
   replace VW : xf Ur VS (VR.flatMap (ci .i64)) 205 := by simpa using VW
   refine qm <| qe <| sO hS (QX (xs := VR) (g := (ci .i64)) (pre := []) (post := []) 0 rfl VW rfl (by simp) rfl (zP (g := (ci .i64)) (sz := 1) (fun _ => rfl) VV) Tryz.isAgg205 Tryz.sizeOf205) rfl fun hS => QZ (xs := VR) (ys := VR) (g := (ci .i64)) (pre := []) (post := []) 0 hS rfl rfl VW rfl (by simp) rfl (zP (g := (ci .i64)) (sz := 1) (fun _ => rfl) VV) (zP (g := (ci .i64)) (sz := 1) (fun _ => rfl) VV) (xg) Tryz.sizeOf205 fun w Us V2 hS => ?_
   replace V2 : xf Us VS (VR.flatMap (ci .i64)) 205 := by simpa using V2
   refine sA hS rfl fun hS => qm <| wp_ret ?_
   exact xI (vs := [.agg ⟨VR.flatMap (ci .i64)⟩, .bool true]) hS rfl (by exact ⟨JB 0 rfl V2 rfl (zP (g := (ci .i64)) (sz := 1) (fun _ => rfl) VV) Tryz.isAgg205 Tryz.sizeOf205, Xc rfl, trivial⟩) (hret VR true _ (qG hM) VV (hS.st.pick [] (by kernel_rfl)))
theorem uE {H : z7} {F : List qj} {w : World} {R : Ending → World → Prop} {kr : Int → Prop} {kp : Value → Prop} (hG : Gl H) (K : Nat) (VO : List Int) (V0 : Option Addr) (V1 : Nat) (Uc : yU H [] F (ci .i64) V0 VO) (Ub : VO.length ≤ V1)
    (hS : St w H [] F) (hm : (xL.m K VO).wp kr kp)
    (hret : ∀ (VZ : Int) (w : World), kr VZ → St w H [] F → R (.returned (.int .i64 VZ)) w) :
    Calls Tryz.prog 137 ⟨[.slice V0 VO.length V1]⟩ w R := by
 refine enter Tryz.func137 rfl Tryz.ntmps137 rfl hS fun a w hS => ?_
 have hM := hm; clear hm
 rw [xL.m] at hM
 refine qe <| sA hS rfl fun hS => qm <| qe <| sM hS rfl fun hS => qq hS rfl Tryz.call138 (vB hG K VO V0 V1 (Uc.app _) Ub (hS.st.part 0 [] (by kernel_rfl)) (qh hM) (fun VR Ug w hM VU hst => qn hS.ev hst.appF rfl fun hS => ?_))
 replace hS : Ss _ _ _ H [] F _ _ := hS
 refine sM hS rfl fun hS => sO hS (ex rfl rfl) rfl fun hS => sO hS (ex rfl rfl) rfl fun hS => jz ((List.replicate 16 (0 : Int)).flatMap (ci .i64)) hS Tryz.zeroValue205 rfl rfl fun w VV Uf V2 hS => QZ (xs := (List.replicate 16 (0 : Int))) (ys := VR) (g := (ci .i64)) (pre := []) (post := []) 0 hS rfl rfl V2 rfl (by simp) rfl (zP (g := (ci .i64)) (sz := 1) (fun _ => rfl) (List.length_replicate ..)) (zP (g := (ci .i64)) (sz := 1) (fun _ => rfl) VU) (xg) Tryz.sizeOf205 fun w VW VT hS => ?_
 replace VT : xf VW VV (VR.flatMap (ci .i64)) 205 := by simpa using VT
 refine sA hS rfl fun hS => qm <| wp_seq <| qe <| sM hS rfl fun hS => sO hS (un rfl rfl) rfl fun hS => qm <| qo hS rfl hM (fun V5 hM => ?_) (fun V5 hM => ?_)
 ·refine wp_seq ?_
  refine zb <| sA hS rfl fun hS => qm <| wp_ret <| qu ?_
  exact qP (rs := [2]) hS rfl rfl (hret (1 : Int) _ (qG hM) (hS.st.pick [] (by kernel_rfl)))
 ·refine wp_skip ?_
  refine qc <| qe <| sA hS rfl fun hS => qm <| qV (fun a w => ∃ (VP : Int), Ss 38 [] [(3, qx VV 0), (5, .int .i64 VP)] H [VW] F a w ∧ (xL.j2 K VR VP).wp kr kp) (fun Ue V4 => ?_) ?_
  ·refine wp_seq ?_
   refine zb <| sO hS (QX (xs := VR) (g := (ci .i64)) (pre := []) (post := []) 0 rfl VT rfl (by simp) rfl (zP (g := (ci .i64)) (sz := 1) (fun _ => rfl) VU) Tryz.isAgg205 Tryz.sizeOf205) rfl fun hS => sM hS rfl fun hS => qm <| z3 <| q6 (fun VY a w => ∃ (VQ : Int) (VS : Int), Ss 38 [] [(3, qx VV 0), (5, .int .i64 VQ), (15, .agg ⟨VR.flatMap (ci .i64)⟩), (16, .int .i64 VS)] H [VW] F a w ∧ (xL.l1 K VR VY VQ VS).wp kr kp) K ?_ ?_ ?_
   ·exact ⟨(0 : Int), (0 : Int), hS.to [0] (by kernel_rfl) ⟨rfl, rfl, rfl, rfl, trivial⟩, hM⟩
   ·intro a w hI; obtain ⟨_, _, _, hM⟩ := hI; exact qX hM
   ·intro VY a w hI Ud V3
    obtain ⟨VQ, VS, hS, hM⟩ := hI
    rw [xL.l1] at hM
    refine qe <| sB hS rfl fun hS => qm <| wp_seq <| qo hS rfl hM (fun V6 hM => ?_) (fun V6 hM => ?_)
    ·refine wp_skip ?_
     refine qc <| wp_seq <| z3 <| qe <| sM hS rfl fun hS => ?_
     obtain ⟨V8, hM⟩ := qt hM
     refine sO hS (J4 rfl rfl Tryz.runUnderlying205 Tryz.isAgg3 Tryz.sizeOf3 (fun _ => rfl) VU V8 rfl) rfl fun hS => sA hS rfl fun hS => qY (v := Value.int .i64) (x0 := (rd VR VS)) hS (zE rfl) rfl fun Ua a w hz hS => ?_
     have hM := qp hz hM; clear hz
     refine qm <| zb <| sM hS rfl fun hS => sM hS rfl fun hS => sM hS rfl fun hS => ?_
     obtain ⟨V9, hM⟩ := qt hM
     refine sO hS (shr rfl rfl V9) rfl fun hS => sB hS rfl fun hS => sB hS rfl fun hS => qY (v := Value.int .i64) (x0 := (qi (VQ + (qi (Ua * (zX .i64 (32768 : Int) VS)))))) hS (zE rfl) rfl fun VX a w hz hS => ?_
     have hM := qp hz hM; clear hz
     refine qL <| qW (qc ?_)
     refine zb <| sB hS rfl fun hS => sM hS rfl fun hS => qL <| qc ?_
     exact V3 _ _ ⟨VX, (qi (VS + (1 : Int))), hS.to [0] (by kernel_rfl) ⟨rfl, rfl, rfl, rfl, trivial⟩, hM⟩
    ·refine wp_exit ?_
     refine qv (qv (qO (qc ?_)))
     exact V4 _ _ ⟨VQ, hS.to [0] (by kernel_rfl) ⟨rfl, rfl, trivial⟩, hM⟩
  ·intro a w hI
   obtain ⟨VP, hS, hM⟩ := hI
   rw [xL.j2] at hM
   refine wp_seq <| qe <| sM hS rfl fun hS => sB hS rfl fun hS => sM hS rfl fun hS => xm 2 false 29 (b := (VP == (0 : Int))) (r := (VP == (32768 : Int))) hS rfl rfl rfl rfl rfl rfl rfl (fun hb a w hS K hK => ?_) rfl fun a w hS => ?_
   ·refine qI hS rfl rfl rfl hb (mv rfl) rfl fun a w hS => ?_
    refine qI hS rfl rfl rfl hb (xN rfl rfl rfl) rfl fun a w hS => ?_
    exact qL (hK _ _ (hS.up 2 rfl rfl))
   refine sM hS rfl fun hS => xm 3 false 33 (b := ((VP == (0 : Int)) || (VP == (32768 : Int)))) (r := (VR == ([0, (1 : Int), 0, 0, 0, 0, 0, 0, 0, 0, 0, 0, 0, 0, 0, 0] : List Int))) hS rfl rfl rfl rfl rfl rfl rfl (fun hb a w hS K hK => ?_) rfl fun a w hS => ?_
   ·refine qI hS rfl rfl rfl hb (QX (xs := VR) (g := (ci .i64)) (pre := []) (post := []) 0 rfl VT rfl (by simp) rfl (zP (g := (ci .i64)) (sz := 1) (fun _ => rfl) VU) Tryz.isAgg205 Tryz.sizeOf205) rfl fun a w hS => ?_
    refine qI hS rfl rfl rfl hb (X5 (([0, (1 : Int), 0, 0, 0, 0, 0, 0, 0, 0, 0, 0, 0, 0, 0, 0] : List Int).flatMap (ci .i64)) Tryz.zeroValue205 Tryz.runUnderlying205 Tryz.sizeOf3 rfl (by kernel_rfl)) rfl fun a w hS => qI hS rfl rfl rfl hb (YZ rfl rfl Tryz.runUnderlying205 Tryz.runUnderlying3 Tryz.sizeOf3 Tryz.isAgg3 VU rfl Tryz.eqGuardType205 rfl) rfl fun a w hS => ?_
    exact qL (hK _ _ (hS.up 3 rfl rfl))
   refine qm <| qo hS rfl hM (fun V7 hM => ?_) (fun V7 hM => ?_)
   ·refine wp_seq ?_
    refine zb <| sA hS rfl fun hS => qm <| wp_ret <| qu ?_
    exact qP (rs := [2]) hS rfl rfl (hret (0 : Int) _ (qG hM) (hS.st.pick [] (by kernel_rfl)))
   ·refine wp_skip ?_
    refine qc <| qe <| sA hS rfl fun hS => qm <| wp_ret ?_
    exact qP (rs := [2]) hS rfl rfl (hret (3 : Int) _ (qG hM) (hS.st.pick [] (by kernel_rfl)))
theorem vN {H : z7} {F : List qj} {w : World} {R : Ending → World → Prop} {kr : (List Int) → Prop} {kp : Value → Prop} (hG : Gl H) (K : Nat) (VQ : List Int) (Ue : VQ.length = 16)
    (hS : St w H [] F) (hm : (zH.m K VQ).wp kr kp)
    (hret : ∀ (V6 : (List Int)) (w : World), kr V6 → (V6.length = 16) → St w H [] F → R (.returned (.agg ⟨V6.flatMap (ci .i64)⟩)) w) :
    Calls Tryz.prog 139 ⟨[.agg ⟨VQ.flatMap (ci .i64)⟩]⟩ w R := by
 refine enter Tryz.func139 rfl Tryz.ntmps139 rfl hS fun a w hS => ?_
 have hM := hm; clear hm
 rw [zH.m] at hM
 refine qe <| bx (VQ.flatMap (ci .i64)) hS rfl rfl rfl fun w Uh Ui V9 hS => jz ((List.replicate 16 (0 : Int)).flatMap (ci .i64)) hS Tryz.zeroValue205 rfl rfl fun w VU Uj Ua hS => qm <| qe <| sA hS rfl fun hS => qm <| qV (fun a w => ∃ (VO : (List Int)) (V1 : qj), Ss 20 [] [(2, qx VU 0)] H [V1] F a w ∧ (VO.length = 16) ∧ (xf V1 VU (VO.flatMap (ci .i64)) 205) ∧ (zH.j2 K VO).wp kr kp) (fun Um Uc => ?_) ?_
 ·refine wp_seq ?_
  refine zb <| sA hS rfl fun hS => qm <| z3 <| q6 (fun V8 a w => ∃ (VP : (List Int)) (V0 : qj) (VR : Int) (VT : Int), Ss 20 [] [(1, qx Uh 0), (2, qx VU 0), (3, .int .i64 VR), (4, .int .i64 VT)] H [Ui, V0] F a w ∧ (VP.length = 16) ∧ (xf V0 VU (VP.flatMap (ci .i64)) 205) ∧ (zH.l1 K VQ V8 VP VR VT).wp kr kp) K ?_ ?_ ?_
  ·exact ⟨(List.replicate 16 (0 : Int)), Uj, (0 : Int), (1 : Int), hS.to [1, 0] (by kernel_rfl) ⟨rfl, rfl, rfl, rfl, trivial⟩, (List.length_replicate ..), Ua, hM⟩
  ·intro a w hI; obtain ⟨_, _, _, _, _, _, _, hM⟩ := hI; exact qX hM
  ·intro V8 a w hI Ul Ub
   obtain ⟨VP, V0, VR, VT, hS, VY, V2, hM⟩ := hI
   rw [zH.l1] at hM
   refine wp_seq <| qe <| sM hS rfl fun hS => sB hS rfl fun hS => qm <| qo hS rfl hM (fun Ud hM => ?_) (fun Ud hM => ?_)
   ·refine wp_skip ?_
    refine qc <| wp_seq <| z3 <| qe <| sM hS rfl fun hS => sM hS rfl fun hS => sB hS rfl fun hS => ?_
    obtain ⟨V4, hM⟩ := qt hM
    refine sO hS (ZH rfl rfl Tryz.runUnderlying205 Tryz.sizeOf3 V4) rfl fun hS => sO hS (Jz (xs := VQ) (g := (ci .i64)) (pre := []) (post := []) 0 rfl V9 rfl (by simp) rfl (fun _ => rfl) (yE Ue V4) rfl Tryz.isAgg3) rfl fun hS => sB hS rfl fun hS => sO hS (shl rfl rfl rfl) rfl fun hS => qY (v := Value.int .i64) (x0 := (z1 .i64 (qi (VR + (rd VQ (qi (VT - (1 : Int)))))) (1 : Int))) hS (zE rfl) rfl fun VV a w hz hS => ?_
    have hM := qp hz hM; clear hz
    refine qm <| zb <| sM hS rfl fun hS => sM hS rfl fun hS => ?_
    obtain ⟨V5, hM⟩ := qt hM
    refine sO hS (ZH rfl rfl Tryz.runUnderlying205 Tryz.sizeOf3 V5) rfl fun hS => YR (xs := VP) (g := (ci .i64)) (pre := []) (post := []) 1 (VV) hS rfl rfl V2 rfl (by simp) rfl (fun _ => rfl) (yE VY V5) rfl Tryz.sizeOf3 (xg _) fun VZ w V7 hz VW hS => ?_
    have Uf : VZ.length = 16 := by rw [hz, List.length_set]; exact VY
    have hM := qp hz hM; clear hz
    replace VW : xf V7 VU (VZ.flatMap (ci .i64)) 205 := by simpa using VW
    refine qL <| qW (qc ?_)
    refine zb <| sM hS rfl fun hS => sB hS rfl fun hS => qY (v := Value.int .i64) (x0 := (qi (VT + (1 : Int)))) hS (zE rfl) rfl fun Ug a w hz hS => ?_
    have hM := qp hz hM; clear hz
    refine qL <| qc ?_
    exact Ub _ _ ⟨VZ, V7, VV, Ug, hS.to [0, 1] (by kernel_rfl) ⟨rfl, rfl, rfl, rfl, trivial⟩, Uf, VW, hM⟩
   ·refine wp_exit ?_
    refine qv (qv (qO (qc ?_)))
    exact Uc _ _ ⟨VP, V0, hS.to [1] (by kernel_rfl) ⟨rfl, trivial⟩, VY, V2, hM⟩
 ·intro a w hI
  obtain ⟨VO, V1, hS, VS, V3, hM⟩ := hI
  rw [zH.j2] at hM
  refine qe <| sO hS (QX (xs := VO) (g := (ci .i64)) (pre := []) (post := []) 0 rfl V3 rfl (by simp) rfl (zP (g := (ci .i64)) (sz := 1) (fun _ => rfl) VS) Tryz.isAgg205 Tryz.sizeOf205) rfl fun hS => QZ (xs := VO) (ys := VO) (g := (ci .i64)) (pre := []) (post := []) 0 hS rfl rfl V3 rfl (by simp) rfl (zP (g := (ci .i64)) (sz := 1) (fun _ => rfl) VS) (zP (g := (ci .i64)) (sz := 1) (fun _ => rfl) VS) (xg) Tryz.sizeOf205 fun w Uk VX hS => ?_
  replace VX : xf Uk VU (VO.flatMap (ci .i64)) 205 := by simpa using VX
  refine qm <| wp_ret ?_
  exact xI (vs := [.agg ⟨VO.flatMap (ci .i64)⟩]) hS rfl (by exact ⟨JB 0 rfl VX rfl (zP (g := (ci .i64)) (sz := 1) (fun _ => rfl) VS) Tryz.isAgg205 Tryz.sizeOf205, trivial⟩) (hret VO _ (qG hM) VS (hS.st.pick [] (by kernel_rfl)))
theorem Zr {H : z7} {F : List qj} {w : World} {R : Ending → World → Prop} {kr : ((List Int) × Int) → Prop} {kp : Value → Prop} (hG : Gl H) (K : Nat) (VO : List Int) (V9 : Option Addr) (Ua : Nat) (V7 : yU H [] F (ci .i64) V9 VO) (Up : VO.length ≤ Ua)
    (hS : St w H [] F) (hm : (yr.m K VO).wp kr kp)
    (hret : ∀ (Ui : Option Addr) (Uj : Nat) (Uh : (List Int)) (Un : qj) (Ur : Int) (w : World), kr (Uh, Ur) → (zM 3 (ci .i64) 1 Ui Uh Uj Un) → St w H [Un] F → R (.returned (.tuple ⟨[.slice Ui Uh.length Uj, .int .i64 Ur]⟩)) w) :
    Calls Tryz.prog 112 ⟨[.slice V9 VO.length Ua]⟩ w R := by
 refine enter Tryz.func112 rfl Tryz.ntmps112 rfl hS fun a w hS => ?_
 have hM := hm; clear hm
 rw [yr.m] at hM
 refine qe <| sA hS rfl fun hS => ?_
 obtain ⟨Us, UM, hS⟩ := hS.nilV 3 (ci .i64) 1
 refine sA hS rfl fun hS => qm <| wp_seq <| qe <| sM hS rfl fun hS => qq hS rfl Tryz.call137 (uE hG K VO V9 Ua (V7.app _) Up (hS.st.part 0 [0] (by kernel_rfl)) (qh hM) (fun UI w hM  hst => qn hS.ev hst.appF rfl fun hS => ?_))
 replace hS : Ss _ _ _ H [Us] F _ _ := hS
 refine sA hS rfl fun hS => qm <| qe <| sM hS rfl fun hS => sB hS rfl fun hS => qm <| qo hS rfl hM (fun Uy hM => ?_) (fun Uy hM => ?_)
 ·refine wp_seq ?_
  refine zb <| sM hS rfl fun hS => sA hS rfl fun hS => ?_
  obtain ⟨UF, Uv, hS⟩ := hS.nilV 3 (ci .i64) 1
  refine sA hS rfl fun hS => qm <| wp_ret <| qu ?_
  exact qP (rs := [2, 3]) hS rfl rfl (hret none (0) ([] : List Int) UF UI _ (qG hM) Uv (hS.st.pick [0] (by kernel_rfl)))
 ·refine wp_skip ?_
  refine qc <| qe <| sM hS rfl fun hS => qq hS rfl Tryz.call138 (vB hG K VO V9 Ua (V7.app _) Up (hS.st.part 0 [0] (by kernel_rfl)) (qh hM) (fun V8 UN w hM Ub hst => qn hS.ev hst.appF rfl fun hS => ?_))
  replace hS : Ss _ _ _ H [Us] F _ _ := hS
  refine sM hS rfl fun hS => sO hS (ex rfl rfl) rfl fun hS => sO hS (ex rfl rfl) rfl fun hS => jz ((List.replicate 16 (0 : Int)).flatMap (ci .i64)) hS Tryz.zeroValue205 rfl rfl fun w UE UK Ut hS => QZ (xs := (List.replicate 16 (0 : Int))) (ys := V8) (g := (ci .i64)) (pre := []) (post := []) 0 hS rfl rfl Ut rfl (by simp) rfl (zP (g := (ci .i64)) (sz := 1) (fun _ => rfl) (List.length_replicate ..)) (zP (g := (ci .i64)) (sz := 1) (fun _ => rfl) Ub) (xg) Tryz.sizeOf205 fun w Uk VZ hS => ?_
  replace VZ : xf Uk UE (V8.flatMap (ci .i64)) 205 := by simpa using VZ
  refine sA hS rfl fun hS => qm <| qe <| sO hS (QX (xs := V8) (g := (ci .i64)) (pre := []) (post := []) 0 rfl VZ rfl (by simp) rfl (zP (g := (ci .i64)) (sz := 1) (fun _ => rfl) Ub) Tryz.isAgg205 Tryz.sizeOf205) rfl fun hS => qq hS rfl Tryz.call139 (vN hG K V8 Ub (hS.st.part 0 [0, 1] (by kernel_rfl)) (qh hM) (fun Ug w hM Uo hst => qn hS.ev hst.appF rfl fun hS => ?_))
  replace hS : Ss _ _ _ H [Uk, Us] F _ _ := hS
  refine jz ((List.replicate 16 (0 : Int)).flatMap (ci .i64)) hS Tryz.zeroValue205 rfl rfl fun w V5 UL Uu hS => QZ (xs := (List.replicate 16 (0 : Int))) (ys := Ug) (g := (ci .i64)) (pre := []) (post := []) 0 hS rfl rfl Uu rfl (by simp) rfl (zP (g := (ci .i64)) (sz := 1) (fun _ => rfl) (List.length_replicate ..)) (zP (g := (ci .i64)) (sz := 1) (fun _ => rfl) Uo) (xg) Tryz.sizeOf205 fun w Ul V0 hS => ?_
  replace V0 : xf Ul V5 (Ug.flatMap (ci .i64)) 205 := by simpa using V0
  refine qm <| qe <| sM hS rfl fun hS => sO hS (xw rfl Tryz.runUnderlying128) rfl fun hS => ?_
  obtain ⟨UB, hM⟩ := qt hM
  refine Yn (g := (ci .i64)) (m := (VO.length : Int)) (0 : Int) hS rfl rfl (by simp) Tryz.runUnderlying128 X.el3 (fun w => ⟨_, Tryz.zeroValue3 w, rfl⟩) (fun _ => rfl) rfl rfl UB rfl fun UD w VS VT UG hz Uw hS => ?_
  have hM := qp hz hM; clear hz
  refine sA hS rfl fun hS => qm <| wp_seq <| qe <| sM hS rfl fun hS => sO hS (xw rfl Tryz.runUnderlying128) rfl fun hS => sM hS rfl fun hS => qm <| z3 <| q6 (fun Uq a w => ∃ (VP : (List Int)) (V6 : qj) (VQ : (List Int)) (VY : qj) (VV : Int), Ss 48 [] [(7, qx V5 0), (8, .slice VS VQ.length VT), (26, .slice V9 VO.length Ua), (27, .int .i64 (VO.length : Int)), (28, .int .i64 VV)] H [V6, VY] F a w ∧ (VP.length = 16) ∧ (xf V6 V5 (VP.flatMap (ci .i64)) 205) ∧ (zM 3 (ci .i64) 1 VS VQ VT VY) ∧ (yr.l1 K VO Uq VP VQ VV).wp kr kp) K ?_ ?_ ?_
  ·exact ⟨Ug, Ul, UD, UG, (0 : Int), hS.to [1, 0] (by kernel_rfl) ⟨rfl, rfl, rfl, rfl, rfl, trivial⟩, Uo, V0, Uw, hM⟩
  ·intro a w hI; obtain ⟨_, _, _, _, _, _, _, _, _, hM⟩ := hI; exact qX hM
  ·intro Uq a w hI UJ Uc
   obtain ⟨VP, V6, VQ, VY, VV, hS, VU, VW, VX, hM⟩ := hI
   rw [yr.l1] at hM
   refine qe <| sB hS rfl fun hS => qm <| wp_seq <| qo hS rfl hM (fun Uz hM => ?_) (fun Uz hM => ?_)
   ·refine wp_skip ?_
    refine qc <| wp_seq <| z3 <| qe <| sM hS rfl fun hS => ?_
    obtain ⟨Ud, hM⟩ := qt hM
    refine sO hS (xF rfl rfl Tryz.runUnderlying128 Tryz.sizeOf3 V7.wk (fun _ => rfl) rfl Ud) rfl fun hS => sO hS (xO rfl V7.wk (fun _ => rfl) Ud rfl Tryz.isAgg3) rfl fun hS => sA hS rfl fun hS => qY (v := Value.int .i64) (x0 := (rd VO VV)) hS (zE rfl) rfl fun V2 a w hz hS => ?_
    have hM := qp hz hM; clear hz
    refine qm <| qe <| sM hS rfl fun hS => sB hS rfl fun hS => qm <| qo hS rfl hM (fun UA hM => ?_) (fun UA hM => ?_)
    ·refine wp_seq ?_
     refine zb <| sM hS rfl fun hS => sM hS rfl fun hS => sM hS rfl fun hS => ?_
     obtain ⟨VR, hM⟩ := qt hM
     refine sO hS (ZH rfl rfl Tryz.runUnderlying205 Tryz.sizeOf3 VR) rfl fun hS => sO hS (Jz (xs := VP) (g := (ci .i64)) (pre := []) (post := []) 0 rfl VW rfl (by simp) rfl (fun _ => rfl) (yE VU VR) rfl Tryz.isAgg3) rfl fun hS => ?_
     obtain ⟨Ue, hM⟩ := qt hM
     refine sO hS (xF rfl rfl Tryz.runUnderlying128 Tryz.sizeOf3 (VX.rd (i := 1) rfl) (fun _ => rfl) rfl Ue) rfl fun hS => QS (i := VV) (sz := 1) 1 0 ((rd VP V2)) hS rfl rfl VX rfl Tryz.sizeOf3 (xg (rd VP V2)) (fun _ => rfl) Ue rfl rfl fun V3 w UH hz Uf Ux hS => ?_
     have hM := qp hz hM; clear hz
     replace hS := hS.re 8 (u := .slice VS VQ.length VT) (v := .slice VS V3.length VT) rfl (by rw [Uf])
     replace hS := hS.re 35 (u := .slice VS VQ.length VT) (v := .slice VS V3.length VT) rfl (by rw [Uf])
     refine qm <| zb <| sM hS rfl fun hS => sO hS (ZH rfl rfl Tryz.runUnderlying205 Tryz.sizeOf3 VR) rfl fun hS => sO hS (Jz (xs := VP) (g := (ci .i64)) (pre := []) (post := []) 0 rfl VW rfl (by simp) rfl (fun _ => rfl) (yE VU VR) rfl Tryz.isAgg3) rfl fun hS => sB hS rfl fun hS => sO hS (ZH rfl rfl Tryz.runUnderlying205 Tryz.sizeOf3 VR) rfl fun hS => YR (xs := VP) (g := (ci .i64)) (pre := []) (post := []) 0 ((qi ((rd VP V2) + (1 : Int)))) hS rfl rfl VW rfl (by simp) rfl (fun _ => rfl) (yE VU VR) rfl Tryz.sizeOf3 (xg _) fun V4 w Um hz V1 hS => ?_
     have UC : V4.length = 16 := by rw [hz, List.length_set]; exact VU
     have hM := qp hz hM; clear hz
     replace V1 : xf Um V5 (V4.flatMap (ci .i64)) 205 := by simpa using V1
     refine qL <| qW (qc ?_)
     refine zb <| sB hS rfl fun hS => sM hS rfl fun hS => qL <| qc ?_
     exact Uc _ _ ⟨V4, Um, V3, UH, (qi (VV + (1 : Int))), hS.to [0, 1] (by kernel_rfl) ⟨rfl, rfl, rfl, rfl, rfl, trivial⟩, UC, V1, Ux, hM⟩
    ·refine wp_skip ?_
     refine qW (qc ?_)
     refine zb <| sB hS rfl fun hS => sM hS rfl fun hS => qL <| qc ?_
     exact Uc _ _ ⟨VP, V6, VQ, VY, (qi (VV + (1 : Int))), hS.to [0, 1] (by kernel_rfl) ⟨rfl, rfl, rfl, rfl, rfl, trivial⟩, VU, VW, VX, hM⟩
   ·refine wp_exit ?_
    refine qv (qv (qO (qc ?_)))
    refine qe <| sM hS rfl fun hS => sA hS rfl fun hS => sA hS rfl fun hS => qm <| wp_ret ?_
    exact qP (rs := [2, 3]) hS rfl rfl (hret VS VT VQ VY (0 : Int) _ (qG hM) VX (hS.st.pick [1] (by kernel_rfl)))
theorem yx {H : z7} {F : List qj} {w : World} {R : Ending → World → Prop} {kr : (List Int) → Prop} {kp : Value → Prop} (hG : Gl H) (K : Nat) (VO : List Int) (VT : Option Addr) (VU : Nat) (V3 : yU H [] F (ci .i64) VT VO) (V2 : VO.length ≤ VU)
    (hS : St w H [] F) (hm : (ya.m K VO).wp kr kp)
    (hret : ∀ (VV : Option Addr) (VW : Nat) (VP : (List Int)) (VY : qj) (w : World), kr VP → (zM 3 (ci .i64) 1 VV VP VW VY) → St w H [VY] F → R (.returned (.agg ⟨[.slice VT VO.length VU, .slice VV VP.length VW]⟩)) w) :
    Calls Tryz.prog 90 ⟨[.slice VT VO.length VU]⟩ w R := by
 refine enter Tryz.func90 rfl Tryz.ntmps90 rfl hS fun a w hS => ?_
 have hM := hm; clear hm
 rw [ya.m] at hM
 refine qe <| jz ([.slice none 0 0, .slice none 0 0]) hS Tryz.zeroValue130 rfl rfl fun w Ub V4 V1 hS => ?_
 obtain ⟨V5, V8, hS⟩ := hS.nilV 3 (ci .i64) 1
 obtain ⟨V6, V9, hS⟩ := hS.nilV 3 (ci .i64) 1
 refine qm <| qe <| sM hS rfl fun hS => qq hS rfl Tryz.call112 (Zr hG K VO VT VU (V3.app _) V2 (hS.st.part 0 [0, 1, 2] (by kernel_rfl)) (qh hM) (fun VQ VR VS VX Ua w hM V0 hst => qn hS.ev hst.appF rfl fun hS => ?_))
 replace hS : Ss _ _ _ H [VX, V6, V5, V4] F _ _ := hS
 refine sM hS rfl fun hS => sO hS (ex rfl rfl) rfl fun hS => sO hS (ex rfl rfl) rfl fun hS => sA hS rfl fun hS => sA hS rfl fun hS => qm <| qe <| sM hS rfl fun hS => sM hS rfl fun hS => sO hS (vI ([.slice VT VO.length VU, .slice VQ VS.length VR]) [(0, 1), (1, 1)] Tryz.zeroValue130 Tryz.runUnderlying130 (by intro w; simp [Tryz.sizeOf128]) rfl rfl) rfl fun hS => jn 3 ([.slice VT VO.length VU, .slice VQ VS.length VR]) ([.slice VT VO.length VU, .slice VQ VS.length VR]) hS rfl rfl V1 rfl rfl Tryz.sizeOf130 (by simp [Value.oneCell']) (Nat.le_of_ble_eq_true rfl) rfl fun w V7 VZ hS => qm <| wp_ret ?_
 exact xI (vs := [.agg ⟨[.slice VT VO.length VU, .slice VQ VS.length VR]⟩]) hS rfl (by exact ⟨Qq 3 ([.slice VT VO.length VU, .slice VQ VS.length VR]) rfl VZ rfl rfl rfl Tryz.isAgg130 Tryz.sizeOf130, trivial⟩) (hret VQ VR VS VX _ (qG hM) V0 (hS.st.pick [0] (by kernel_rfl)))
theorem vR {H : z7} {F : List qj} {w : World} {R : Ending → World → Prop} {kr : ((List Int) × (List Int) × (List Int) × (List Int)) → Prop} {kp : Value → Prop} (hG : Gl H) (K : Nat)
    (hS : St w H [] F) (hm : (za.m K).wp kr kp)
    (hret : ∀ (Uw : Option Addr) (UA : Nat) (VU : (List Int)) (UF : qj) (Ux : Option Addr) (UB : Nat) (VZ : (List Int)) (UG : qj) (Uy : Option Addr) (UC : Nat) (VV : (List Int)) (UH : qj) (Uz : Option Addr) (UD : Nat) (V0 : (List Int)) (UI : qj) (w : World), kr (VU, VZ, VV, V0) → (zM 3 (ci .i64) 1 Uw VU UA UF) → (zM 3 (ci .i64) 1 Ux VZ UB UG) → (zM 3 (ci .i64) 1 Uy VV UC UH) → (zM 3 (ci .i64) 1 Uz V0 UD UI) → St w H [UF, UG, UH, UI] F → R (.returned (.tuple ⟨[.agg ⟨[.slice Uw VU.length UA, .slice Ux VZ.length UB]⟩, .agg ⟨[.slice Uy VV.length UC, .slice Uz V0.length UD]⟩]⟩)) w) :
    Calls Tryz.prog 84 ⟨[]⟩ w R := by
 refine enter Tryz.func84 rfl Tryz.ntmps84 rfl hS fun a w hS => ?_
 have hM := hm; clear hm
 rw [za.m] at hM
 refine qe <| jz ([.slice none 0 0, .slice none 0 0]) hS Tryz.zeroValue130 rfl rfl fun w Us V9 UV hS => ?_
 obtain ⟨Ua, Km, hS⟩ := hS.nilV 3 (ci .i64) 1
 obtain ⟨Ub, Kn, hS⟩ := hS.nilV 3 (ci .i64) 1
 refine jz ([.slice none 0 0, .slice none 0 0]) hS Tryz.zeroValue130 rfl rfl fun w Ut Uc UW hS => ?_
 obtain ⟨Ud, Ko, hS⟩ := hS.nilV 3 (ci .i64) 1
 obtain ⟨Ue, Kp, hS⟩ := hS.nilV 3 (ci .i64) 1
 refine qm <| wp_seq <| zb ?_
 obtain ⟨Ka, hM⟩ := qt hM
 refine Yn (g := (ci .i64)) (m := (288 : Int)) (0 : Int) hS rfl rfl (by simp) Tryz.runUnderlying128 X.el3 (fun w => ⟨_, Tryz.zeroValue3 w, rfl⟩) (fun _ => rfl) rfl rfl Ka rfl fun Um w VO VP Ke hz U0 hS => ?_
 have hM := qp hz hM; clear hz
 refine sA hS rfl fun hS => qm <| qV (fun a w => ∃ (VQ : (List Int)) (V7 : qj), Ss 46 [] [(0, qx Us 0), (1, qx Ut 0), (2, .slice VO VQ.length VP)] H [V9, Ua, Ub, Uc, Ud, Ue, V7] F a w ∧ (zM 3 (ci .i64) 1 VO VQ VP V7) ∧ (za.j2 K VQ).wp kr kp) (fun Kr UX => ?_) ?_
 ·refine wp_seq ?_
  refine zb <| sM hS rfl fun hS => sO hS (xw rfl Tryz.runUnderlying128) rfl fun hS => sM hS rfl fun hS => qm <| z3 <| q6 (fun Kc a w => ∃ (VT : (List Int)) (Uu : qj) (VY : Int), Ss 46 [] [(0, qx Us 0), (1, qx Ut 0), (2, .slice VO VT.length VP), (8, .int .i64 (Um.length : Int)), (9, .int .i64 VY)] H [V9, Ua, Ub, Uc, Ud, Ue, Uu] F a w ∧ (zM 3 (ci .i64) 1 VO VT VP Uu) ∧ (za.l1 K Um Kc VT VY).wp kr kp) K ?_ ?_ ?_
  ·exact ⟨Um, Ke, (0 : Int), hS.to [6, 5, 4, 3, 2, 1, 0] (by kernel_rfl) ⟨rfl, rfl, rfl, rfl, rfl, trivial⟩, U0, hM⟩
  ·intro a w hI; obtain ⟨_, _, _, _, _, hM⟩ := hI; exact qX hM
  ·intro Kc a w hI Kq Uh
   obtain ⟨VT, Uu, VY, hS, V1, hM⟩ := hI
   rw [za.l1] at hM
   refine qe <| sB hS rfl fun hS => qm <| wp_seq <| qo hS rfl hM (fun U6 hM => ?_) (fun U6 hM => ?_)
   ·refine wp_skip ?_
    refine qc <| wp_seq <| z3 <| qe <| sM hS rfl fun hS => sA hS rfl fun hS => qm <| z3 <| qe <| sM hS rfl fun hS => sB hS rfl fun hS => sM hS rfl fun hS => xm 2 false 18 (b := (decide (VY < (144 : Int)))) (r := (decide (VY ≥ (280 : Int)))) hS rfl rfl rfl rfl rfl rfl rfl (fun hb a w hS K hK => ?_) rfl fun a w hS => ?_
    ·refine qI hS rfl rfl rfl hb (mv rfl) rfl fun a w hS => ?_
     refine qI hS rfl rfl rfl hb (xN rfl rfl rfl) rfl fun a w hS => ?_
     exact qL (hK _ _ (hS.up 2 rfl rfl))
    refine qY (v := Value.bool) (x0 := ((decide (VY < (144 : Int))) || (decide (VY ≥ (280 : Int))))) hS (zE rfl) rfl fun Ku a w hz hS => ?_
    have hM := qp hz hM; clear hz
    refine qm <| qo hS rfl hM (fun U7 hM => ?_) (fun U7 hM => ?_)
    ·refine zb ?_
     refine sM hS rfl fun hS => sM hS rfl fun hS => ?_
     obtain ⟨UJ, hM⟩ := qt hM
     refine sO hS (xF rfl rfl Tryz.runUnderlying128 Tryz.sizeOf3 (V1.rd (i := 6) rfl) (fun _ => rfl) rfl UJ) rfl fun hS => QS (i := VY) (sz := 1) 6 0 ((8 : Int)) hS rfl rfl V1 rfl Tryz.sizeOf3 (xg (8 : Int)) (fun _ => rfl) UJ rfl rfl fun Un w Kf hz UN U1 hS => ?_
     have hM := qp hz hM; clear hz
     replace hS := hS.re 2 (u := .slice VO VT.length VP) (v := .slice VO Un.length VP) rfl (by rw [UN])
     replace hS := hS.re 22 (u := .slice VO VT.length VP) (v := .slice VO Un.length VP) rfl (by rw [UN])
     refine qL <| qW (qW (qc ?_))
     refine zb <| sB hS rfl fun hS => sM hS rfl fun hS => qL <| qc ?_
     exact Uh _ _ ⟨Un, Kf, (qi (VY + (1 : Int))), hS.to [0, 1, 2, 3, 4, 5, 6] (by kernel_rfl) ⟨rfl, rfl, rfl, rfl, rfl, trivial⟩, U1, hM⟩
    ·refine wp_seq ?_
     refine zb <| sM hS rfl fun hS => sB hS rfl fun hS => qY (v := Value.bool) (x0 := (decide (VY < (256 : Int)))) hS (zE rfl) rfl fun Kv a w hz hS => ?_
     have hM := qp hz hM; clear hz
     refine qm <| qo hS rfl hM (fun U8 hM => ?_) (fun U8 hM => ?_)
     ·refine zb ?_
      refine sM hS rfl fun hS => sM hS rfl fun hS => ?_
      obtain ⟨UK, hM⟩ := qt hM
      refine sO hS (xF rfl rfl Tryz.runUnderlying128 Tryz.sizeOf3 (V1.rd (i := 6) rfl) (fun _ => rfl) rfl UK) rfl fun hS => QS (i := VY) (sz := 1) 6 0 ((9 : Int)) hS rfl rfl V1 rfl Tryz.sizeOf3 (xg (9 : Int)) (fun _ => rfl) UK rfl rfl fun Uo w Kg hz UO U2 hS => ?_
      have hM := qp hz hM; clear hz
      replace hS := hS.re 2 (u := .slice VO VT.length VP) (v := .slice VO Uo.length VP) rfl (by rw [UO])
      replace hS := hS.re 28 (u := .slice VO VT.length VP) (v := .slice VO Uo.length VP) rfl (by rw [UO])
      refine qL <| qW (qW (qc ?_))
      refine zb <| sB hS rfl fun hS => sM hS rfl fun hS => qL <| qc ?_
      exact Uh _ _ ⟨Uo, Kg, (qi (VY + (1 : Int))), hS.to [0, 1, 2, 3, 4, 5, 6] (by kernel_rfl) ⟨rfl, rfl, rfl, rfl, rfl, trivial⟩, U2, hM⟩
     ·refine zb ?_
      refine sM hS rfl fun hS => sM hS rfl fun hS => ?_
      obtain ⟨UL, hM⟩ := qt hM
      refine sO hS (xF rfl rfl Tryz.runUnderlying128 Tryz.sizeOf3 (V1.rd (i := 6) rfl) (fun _ => rfl) rfl UL) rfl fun hS => QS (i := VY) (sz := 1) 6 0 ((7 : Int)) hS rfl rfl V1 rfl Tryz.sizeOf3 (xg (7 : Int)) (fun _ => rfl) UL rfl rfl fun Up w Kh hz UP U3 hS => ?_
      have hM := qp hz hM; clear hz
      replace hS := hS.re 2 (u := .slice VO VT.length VP) (v := .slice VO Up.length VP) rfl (by rw [UP])
      replace hS := hS.re 12 (u := .slice VO VT.length VP) (v := .slice VO Up.length VP) rfl (by rw [UP])
      refine qL <| qW (qW (qc ?_))
      refine zb <| sB hS rfl fun hS => sM hS rfl fun hS => qL <| qc ?_
      exact Uh _ _ ⟨Up, Kh, (qi (VY + (1 : Int))), hS.to [0, 1, 2, 3, 4, 5, 6] (by kernel_rfl) ⟨rfl, rfl, rfl, rfl, rfl, trivial⟩, U3, hM⟩
   ·refine wp_exit ?_
    refine qv (qv (qO (qc ?_)))
    exact UX _ _ ⟨VT, Uu, hS.to [0, 1, 2, 3, 4, 5, 6] (by kernel_rfl) ⟨rfl, rfl, rfl, trivial⟩, V1, hM⟩
 ·intro a w hI
  obtain ⟨VQ, V7, hS, Ui, hM⟩ := hI
  rw [za.j2] at hM
  refine wp_seq <| zb ?_
  obtain ⟨Kb, hM⟩ := qt hM
  refine Yn (g := (ci .i64)) (m := (32 : Int)) (0 : Int) hS rfl rfl (by simp) Tryz.runUnderlying128 X.el3 (fun w => ⟨_, Tryz.zeroValue3 w, rfl⟩) (fun _ => rfl) rfl rfl Kb rfl fun Uq w VW VX Ki hz U4 hS => ?_
  have hM := qp hz hM; clear hz
  refine sA hS rfl fun hS => qm <| qV (fun a w => ∃ (V2 : (List Int)) (Uf : qj), Ss 46 [] [(0, qx Us 0), (1, qx Ut 0), (2, .slice VO VQ.length VP), (4, .slice VW V2.length VX)] H [V9, Ua, Ub, Uc, Ud, Ue, V7, Uf] F a w ∧ (zM 3 (ci .i64) 1 VW V2 VX Uf) ∧ (za.j4 K VQ V2).wp kr kp) (fun Kt UZ => ?_) ?_
  ·refine wp_seq ?_
   refine zb <| sM hS rfl fun hS => sO hS (xw rfl Tryz.runUnderlying128) rfl fun hS => sM hS rfl fun hS => qm <| z3 <| q6 (fun Kd a w => ∃ (V8 : (List Int)) (Uv : qj) (Ul : Int), Ss 46 [] [(0, qx Us 0), (1, qx Ut 0), (2, .slice VO VQ.length VP), (4, .slice VW V8.length VX), (34, .int .i64 (Uq.length : Int)), (35, .int .i64 Ul)] H [V9, Ua, Ub, Uc, Ud, Ue, V7, Uv] F a w ∧ (zM 3 (ci .i64) 1 VW V8 VX Uv) ∧ (za.l3 K VQ Uq Kd V8 Ul).wp kr kp) K ?_ ?_ ?_
   ·exact ⟨Uq, Ki, (0 : Int), hS.to [1, 2, 3, 4, 5, 6, 7, 0] (by kernel_rfl) ⟨rfl, rfl, rfl, rfl, rfl, rfl, trivial⟩, U4, hM⟩
   ·intro a w hI; obtain ⟨_, _, _, _, _, hM⟩ := hI; exact qX hM
   ·intro Kd a w hI Ks UY
    obtain ⟨V8, Uv, Ul, hS, Uj, hM⟩ := hI
    rw [za.l3] at hM
    refine qe <| sB hS rfl fun hS => qm <| wp_seq <| qo hS rfl hM (fun U9 hM => ?_) (fun U9 hM => ?_)
    ·refine wp_skip ?_
     refine qc <| wp_seq <| z3 <| qe <| sM hS rfl fun hS => sA hS rfl fun hS => qm <| zb <| sM hS rfl fun hS => sM hS rfl fun hS => ?_
     obtain ⟨UM, hM⟩ := qt hM
     refine sO hS (xF rfl rfl Tryz.runUnderlying128 Tryz.sizeOf3 (Uj.rd (i := 7) rfl) (fun _ => rfl) rfl UM) rfl fun hS => QS (i := Ul) (sz := 1) 7 0 ((5 : Int)) hS rfl rfl Uj rfl Tryz.sizeOf3 (xg (5 : Int)) (fun _ => rfl) UM rfl rfl fun Ur w Kj hz UQ U5 hS => ?_
     have hM := qp hz hM; clear hz
     replace hS := hS.re 4 (u := .slice VW V8.length VX) (v := .slice VW Ur.length VX) rfl (by rw [UQ])
     replace hS := hS.re 38 (u := .slice VW V8.length VX) (v := .slice VW Ur.length VX) rfl (by rw [UQ])
     refine qL <| qW (qc ?_)
     refine zb <| sB hS rfl fun hS => sM hS rfl fun hS => qL <| qc ?_
     exact UY _ _ ⟨Ur, Kj, (qi (Ul + (1 : Int))), hS.to [0, 1, 2, 3, 4, 5, 6, 7] (by kernel_rfl) ⟨rfl, rfl, rfl, rfl, rfl, rfl, trivial⟩, U5, hM⟩
    ·refine wp_exit ?_
     refine qv (qv (qO (qc ?_)))
     exact UZ _ _ ⟨V8, Uv, hS.to [0, 1, 2, 3, 4, 5, 6, 7] (by kernel_rfl) ⟨rfl, rfl, rfl, rfl, trivial⟩, Uj, hM⟩
  ·intro a w hI
   obtain ⟨V2, Uf, hS, Uk, hM⟩ := hI
   rw [za.j4] at hM
   refine qe <| sM hS rfl fun hS => qq hS rfl Tryz.call90 (yx hG K VQ VO VP (Ui.rdF (i := 6) rfl) (Ui.cap (fun _ => rfl) rfl) (hS.st.part 0 [0, 1, 2, 3, 4, 5, 6, 7] (by kernel_rfl)) (qh hM) (fun V3 V5 VR Ug w hM UT hst => qn hS.ev hst.appF rfl fun hS => ?_))
   replace hS : Ss _ _ _ H [Ug, V9, Ua, Ub, Uc, Ud, Ue, V7, Uf] F _ _ := hS
   refine sM hS rfl fun hS => qq hS rfl Tryz.call90 (yx hG K V2 VW VX (Uk.rdF (i := 8) rfl) (Uk.cap (fun _ => rfl) rfl) (hS.st.part 0 [0, 1, 2, 3, 4, 5, 6, 7, 8] (by kernel_rfl)) (qh hM) (fun V4 V6 VS UE w hM UU hst => qn hS.ev hst.appF rfl fun hS => ?_))
   replace hS : Ss _ _ _ H [UE, Ug, V9, Ua, Ub, Uc, Ud, Ue, V7, Uf] F _ _ := hS
   refine jn 2 ([.slice VO VQ.length VP, .slice V3 VR.length V5]) ([.slice VO VQ.length VP, .slice V3 VR.length V5]) hS rfl rfl UV rfl rfl Tryz.sizeOf130 (by simp [Value.oneCell']) (Nat.le_of_ble_eq_true rfl) rfl fun w Kk UR hS => jn 5 ([.slice VW V2.length VX, .slice V4 VS.length V6]) ([.slice VW V2.length VX, .slice V4 VS.length V6]) hS rfl rfl UW rfl rfl Tryz.sizeOf130 (by simp [Value.oneCell']) (Nat.le_of_ble_eq_true rfl) rfl fun w Kl US hS => qm <| wp_ret ?_
   exact xI (vs := [.agg ⟨[.slice VO VQ.length VP, .slice V3 VR.length V5]⟩, .agg ⟨[.slice VW V2.length VX, .slice V4 VS.length V6]⟩]) hS rfl (by exact ⟨Qq 2 ([.slice VO VQ.length VP, .slice V3 VR.length V5]) rfl UR rfl rfl rfl Tryz.isAgg130 Tryz.sizeOf130, Qq 5 ([.slice VW V2.length VX, .slice V4 VS.length V6]) rfl US rfl rfl rfl Tryz.isAgg130 Tryz.sizeOf130, trivial⟩) (hret VO VP VQ V7 V3 V5 VR Ug VW VX V2 Uf V4 V6 VS UE _ (qG hM) Ui UT Uk UU (hS.st.pick [8, 1, 9, 0] (by kernel_rfl)))
theorem q9 {H : z7} {F : List qj} {w : World} {R : Ending → World → Prop} {kr : (Int × Int × (List Int)) → Prop} {kp : Value → Prop} (hG : Gl H) (K : Nat) (VP : qr) (Us : Int) (VX : Int) (VS : Nat) (Up : qj) (Um : Option Addr) (Uo : Nat) (Uq : qj) (VZ : Option Addr) (V3 : Nat) (Ue : qj) (V0 : Option Addr) (V4 : Nat) (Uf : qj) (V1 : Option Addr) (V5 : Nat) (Ug : qj) (V2 : Option Addr) (V6 : Nat) (Uh : qj) (Uu : xf Up VS ([.int .i64 VP.Writer_.place_.at_, .slice Um VP.Writer_.bytes_.length Uo, .slice VZ VP.literals_.lengths_.length V3, .slice V0 VP.literals_.codes_.length V4, .slice V1 VP.distances_.lengths_.length V5, .slice V2 VP.distances_.codes_.length V6]) 132) (Ux : zM 5 (ci .u8) 1 Um VP.Writer_.bytes_ Uo Uq) (U2 : zM 3 (ci .i64) 1 VZ VP.literals_.lengths_ V3 Ue) (U3 : zM 3 (ci .i64) 1 V0 VP.literals_.codes_ V4 Uf) (U4 : zM 3 (ci .i64) 1 V1 VP.distances_.lengths_ V5 Ug) (U5 : zM 3 (ci .i64) 1 V2 VP.distances_.codes_ V6 Uh)
    (hS : St w H [Up, Uq, Ue, Uf, Ug, Uh] F) (hm : (qA.m K VP Us VX).wp kr kp)
    (hret : ∀ (UH : Int) (Un : Int) (UC : Option Addr) (UE : Nat) (VY : (List Int)) (UF : qj) (UG : qj) (w : World), kr (UH, Un, VY) → (zM 5 (ci .u8) 1 UC VY UE UF) → (xf UG VS ([.int .i64 Un, .slice UC VY.length UE, .slice VZ VP.literals_.lengths_.length V3, .slice V0 VP.literals_.codes_.length V4, .slice V1 VP.distances_.lengths_.length V5, .slice V2 VP.distances_.codes_.length V6]) 132) → St w H [UG, UF, Ue, Uf, Ug, Uh] F → R (.returned (.int .i64 UH)) w) :
    Calls Tryz.prog 85 ⟨[qx VS 0, .int .u32 Us, .int .i64 VX]⟩ w R := by
 refine enter Tryz.func85 rfl Tryz.ntmps85 rfl hS fun a w hS => ?_
 have hM := hm; clear hm
 rw [qA.m] at hM
 refine qe <| sA hS rfl fun hS => qm <| wp_seq <| qe <| sM hS rfl fun hS => sO hS (uD rfl rfl Tryz.runUnderlying171) rfl fun hS => sM hS rfl fun hS => qI hS rfl rfl rfl rfl (mv rfl) rfl fun a w hS => qI hS rfl rfl rfl rfl (xN rfl rfl rfl) rfl fun a w hS => sO hS (pk rfl rfl rfl) rfl fun hS => sM hS rfl fun hS => xm 2 false 14 (b := (decide (VX < (0 : Int)))) (r := (decide (VX > (32 : Int)))) hS rfl rfl rfl rfl rfl rfl rfl (fun hb a w hS K hK => ?_) rfl fun a w hS => ?_
 ·refine qI hS rfl rfl rfl hb (mv rfl) rfl fun a w hS => ?_
  refine qI hS rfl rfl rfl hb (xN rfl rfl rfl) rfl fun a w hS => ?_
  exact qL (hK _ _ (hS.up 2 rfl rfl))
 refine sM hS rfl fun hS => ?_
 obtain ⟨US, hM⟩ := qt hM
 refine xm 5 false 18 (b := ((decide (VX < (0 : Int))) || (decide (VX > (32 : Int))))) (r := (decide ((zX .u64 (wr .u64 Us) VX) > (0 : Int)))) hS rfl rfl rfl rfl rfl rfl rfl (fun hb a w hS K hK => ?_) rfl fun a w hS => ?_
 ·refine qI hS rfl rfl rfl hb (mv rfl) rfl fun a w hS => ?_
  refine qI hS rfl rfl rfl hb (yT rfl Tryz.runUnderlying56 Tryz.runUnderlying50) rfl fun a w hS => qI hS rfl rfl rfl hb (mv rfl) rfl fun a w hS => ?_
  have UR := Zt US hb
  refine qI hS rfl rfl rfl hb (shr rfl rfl UR) rfl fun a w hS => qI hS rfl rfl rfl hb (xN rfl rfl rfl) rfl fun a w hS => ?_
  exact qL (hK _ _ (hS.up 5 rfl rfl))
 refine qm <| qo hS rfl hM (fun UO hM => ?_) (fun UO hM => ?_)
 ·refine wp_seq ?_
  refine zb <| sA hS rfl fun hS => qm <| wp_ret <| qu ?_
  exact qP (rs := [6]) hS rfl rfl (hret (1 : Int) VP.Writer_.place_.at_ Um Uo VP.Writer_.bytes_ Uq Up _ (qG hM) Ux Uu (hS.st.pick [0, 1, 2, 3, 4, 5] (by kernel_rfl)))
 ·refine wp_skip ?_
  refine qc <| wp_seq <| z3 <| q6 (fun Uz a w => ∃ (VO : Int) (Uc : Option Addr) (Ud : Nat) (VU : (List Int)) (Ui : qj) (Uj : qj) (VT : Int) (VW : Int), Ss 95 [] [(0, qx VS 0), (1, .int .u32 VT), (2, .int .i64 VW)] H [Uj, Ui, Ue, Uf, Ug, Uh] F a w ∧ (zM 5 (ci .u8) 1 Uc VU Ud Ui) ∧ (xf Uj VS ([.int .i64 VO, .slice Uc VU.length Ud, .slice VZ VP.literals_.lengths_.length V3, .slice V0 VP.literals_.codes_.length V4, .slice V1 VP.distances_.lengths_.length V5, .slice V2 VP.distances_.codes_.length V6]) 132) ∧ (qA.l1 K Uz VO VU VT VW).wp kr kp) K ?_ ?_ ?_
  ·exact ⟨VP.Writer_.place_.at_, Um, Uo, VP.Writer_.bytes_, Uq, Up, Us, VX, hS.to [0, 1, 2, 3, 4, 5] (by kernel_rfl) ⟨rfl, rfl, rfl, trivial⟩, Ux, Uu, hM⟩
  ·intro a w hI; obtain ⟨_, _, _, _, _, _, _, _, _, _, _, hM⟩ := hI; exact qX hM
  ·intro Uz a w hI U8 UK
   obtain ⟨VO, Uc, Ud, VU, Ui, Uj, VT, VW, hS, Uk, V8, hM⟩ := hI
   rw [qA.l1] at hM
   refine wp_seq <| qe <| sM hS rfl fun hS => sB hS rfl fun hS => qm <| qo hS rfl hM (fun UP hM => ?_) (fun UP hM => ?_)
   ·refine wp_skip ?_
    refine qc <| z3 <| qV (fun a w => ∃ (VV : Option Addr) (V7 : Nat) (VR : (List Int)) (Ut : qj) (Ur : qj), Ss 95 [] [(0, qx VS 0), (1, .int .u32 VT), (2, .int .i64 VW)] H [Ur, Ut, Ue, Uf, Ug, Uh] F a w ∧ (zM 5 (ci .u8) 1 VV VR V7 Ut) ∧ (xf Ur VS ([.int .i64 VO, .slice VV VR.length V7, .slice VZ VP.literals_.lengths_.length V3, .slice V0 VP.literals_.codes_.length V4, .slice V1 VP.distances_.lengths_.length V5, .slice V2 VP.distances_.codes_.length V6]) 132) ∧ (qA.j2 K (qA.l1 K Uz) VO VT VW VR).wp kr kp) (fun U7 Uw => ?_) ?_
    ·refine wp_seq ?_
     refine zb <| sM hS rfl fun hS => sO hS (xM rfl) rfl fun hS => sO hS (zz rfl Tryz.runUnderlying127 rfl Tryz.sizeOf125 rfl) rfl fun hS => sO hS (zz rfl Tryz.runUnderlying125 rfl Tryz.sizeOf3 rfl) rfl fun hS => sO hS (zU 0 rfl V8 rfl rfl Tryz.isAgg3) rfl fun hS => sB hS rfl fun hS => sB hS rfl fun hS => qm <| qo hS rfl hM (fun UQ hM => ?_) (fun UQ hM => ?_)
     ·refine zb ?_
      refine sM hS rfl fun hS => sM hS rfl fun hS => sO hS (xM rfl) rfl fun hS => sO hS (zz rfl Tryz.runUnderlying127 rfl Tryz.sizeOf44 rfl) rfl fun hS => sO hS (zU 0 rfl V8 rfl rfl Tryz.isAgg44) rfl fun hS => Qh (g := (ci .u8)) ([(0 : Int)] : List Int) [.int .u8 (0 : Int)] hS Tryz.runUnderlying44 Tryz.sizeOf5 X.el5 rfl rfl rfl (by simp [Value.cells]) rfl rfl rfl rfl rfl fun w U6 U9 Ka UL hS => ?_
      obtain ⟨UT, hM⟩ := qt hM
      refine QR (ys := ([(0 : Int)] : List Int)) 2 hS rfl rfl Uk rfl (UL.rd (i := 0) rfl) Tryz.runUnderlying44 Tryz.runUnderlying44 X.el5 (fun _ => rfl) rfl jc UT rfl fun UA w UB UD UX hz UM hS => ?_
      have hM := qp hz hM; clear hz
      refine sO hS (xM rfl) rfl fun hS => sO hS (zz rfl Tryz.runUnderlying127 rfl Tryz.sizeOf44 rfl) rfl fun hS => Qr 1 ([.int .i64 VO, .slice UB UA.length UD, .slice VZ VP.literals_.lengths_.length V3, .slice V0 VP.literals_.codes_.length V4, .slice V1 VP.distances_.lengths_.length V5, .slice V2 VP.distances_.codes_.length V6]) hS rfl rfl V8 rfl rfl rfl rfl Tryz.sizeOf44 fun w UY UI hS => qL <| qc ?_
      exact Uw _ _ ⟨UB, UD, UA, UX, UY, hS.to [1, 2, 3, 4, 5, 6] (by kernel_rfl) ⟨rfl, rfl, rfl, trivial⟩, UM, UI, hM⟩
     ·refine wp_skip ?_
      refine qc ?_
      exact Uw _ _ ⟨Uc, Ud, VU, Ui, Uj, hS.to [0, 1, 2, 3, 4, 5] (by kernel_rfl) ⟨rfl, rfl, rfl, trivial⟩, Uk, V8, hM⟩
    ·intro a w hI
     obtain ⟨VV, V7, VR, Ut, Ur, hS, Ua, V9, hM⟩ := hI
     rw [qA.j2] at hM
     refine qe <| sM hS rfl fun hS => sO hS (xM rfl) rfl fun hS => sO hS (zz rfl Tryz.runUnderlying127 rfl Tryz.sizeOf125 rfl) rfl fun hS => sO hS (zz rfl Tryz.runUnderlying125 rfl Tryz.sizeOf3 rfl) rfl fun hS => sO hS (zU 0 rfl V9 rfl rfl Tryz.isAgg3) rfl fun hS => sB hS rfl fun hS => sB hS rfl fun hS => sM hS rfl fun hS => sO hS (Xq rfl rfl) rfl fun hS => qY (v := Value.int .i64) (x0 := (if VW < (qi ((8 : Int) - (xi .i64 VO (7 : Int)))) then VW else (qi ((8 : Int) - (xi .i64 VO (7 : Int)))))) hS (zE rfl) rfl fun VQ a w hz hS => ?_
     have hM := qp hz hM; clear hz
     refine qm <| wp_seq ?_
     obtain ⟨Ub, hM⟩ := qt hM
     obtain ⟨Uy, hM⟩ := qt hM
     obtain ⟨UU, hM⟩ := qt hM
     refine qM (vals := [some (qx VS 0), some (qx VS 0), some (qx VS 1), some (.slice VV VR.length V7), some (qx VS 0), some (qx VS 0), some (qx VS 0), some (qx VS 0), some (.int .i64 VO), some (.int .i64 (x5 .i64 VO (8 : Int))), some (z9 VV (Int.toNat (x5 .i64 VO (8 : Int)) * 1)), some (.int .u8 (rd VR (x5 .i64 VO (8 : Int)))), some (.int .u32 VT), some (.int .i64 VQ), some (.int .u32 (z1 .u32 (1 : Int) VQ)), some (.int .u32 (wr .u32 ((z1 .u32 (1 : Int) VQ) - (1 : Int)))), some (.int .u32 (xi .u32 VT (wr .u32 ((z1 .u32 (1 : Int) VQ) - (1 : Int))))), some (.int .u8 (wr .u8 (xi .u32 VT (wr .u32 ((z1 .u32 (1 : Int) VQ) - (1 : Int)))))), some (qx VS 0), some (qx VS 0), some (qx VS 0), some (qx VS 0), some (.int .i64 VO), some (.int .i64 (xi .i64 VO (7 : Int))), some (.int .u8 (z1 .u8 (wr .u8 (xi .u32 VT (wr .u32 ((z1 .u32 (1 : Int) VQ) - (1 : Int))))) (xi .i64 VO (7 : Int)))), some (.int .u8 (uk .u8 (rd VR (x5 .i64 VO (8 : Int))) (z1 .u8 (wr .u8 (xi .u32 VT (wr .u32 ((z1 .u32 (1 : Int) VQ) - (1 : Int))))) (xi .i64 VO (7 : Int))))), some (z9 VV (Int.toNat (x5 .i64 VO (8 : Int)) * 1)), none]) hS zV rfl ?_
     intro l w ho hcl hA hst
     refine x4 hA hst ho hcl zO zW 27 [0, 1, 2, 3, 4, 5, 6, 7, 8, 9, 10, 11, 12, 13, 14, 15, 16, 17, 18, 19, 20, 21, 22, 23, 24, 25, 26] rfl rfl rfl rfl rfl (by exact ⟨nM rfl, nQ rfl (by exact qJ (xM rfl) rfl), nQ rfl (by exact qJ (zz rfl Tryz.runUnderlying127 rfl Tryz.sizeOf44 rfl) rfl), nQ rfl (by exact qJ (zU 0 rfl V9 rfl rfl Tryz.isAgg44) rfl), nM rfl, nQ rfl (by exact qJ (xM rfl) rfl), nQ rfl (by exact qJ (zz rfl Tryz.runUnderlying127 rfl Tryz.sizeOf125 rfl) rfl), nQ rfl (by exact qJ (zz rfl Tryz.runUnderlying125 rfl Tryz.sizeOf3 rfl) rfl), nQ rfl (by exact qJ (zU 0 rfl V9 rfl rfl Tryz.isAgg3) rfl), nQ rfl (by exact qJ (quo rfl rfl rfl) rfl), nQ rfl (by exact qJ (xF rfl rfl Tryz.runUnderlying44 Tryz.sizeOf5 (Ua.rd (i := 1) rfl) (fun _ => rfl) rfl Ub) rfl), nQ rfl (by exact qJ (xO rfl (Ua.rd (i := 1) rfl) (fun _ => rfl) Ub rfl Tryz.isAgg5) rfl), nM rfl, nM rfl, nQ rfl (by exact qJ (shl rfl rfl Uy) rfl), nB rfl, nB rfl, nQ rfl (by exact qJ (yT rfl Tryz.runUnderlying56 Tryz.runUnderlying5) rfl), nM rfl, nQ rfl (by exact qJ (xM rfl) rfl), nQ rfl (by exact qJ (zz rfl Tryz.runUnderlying127 rfl Tryz.sizeOf125 rfl) rfl), nQ rfl (by exact qJ (zz rfl Tryz.runUnderlying125 rfl Tryz.sizeOf3 rfl) rfl), nQ rfl (by exact qJ (zU 0 rfl V9 rfl rfl Tryz.isAgg3) rfl), nB rfl, nQ rfl (by exact qJ (shl rfl rfl UU) rfl), nB rfl, nQ rfl (by exact qJ (xF rfl rfl Tryz.runUnderlying44 Tryz.sizeOf5 (Ua.rd (i := 1) rfl) (fun _ => rfl) rfl Ub) rfl), trivial⟩) fun D l a w ho hcl hav hpre hm hE hk hA hst => ?_
     have hS := (Ss.mk hE hst).env2 (e' := [(77, .int .u8 (uk .u8 (rd VR (x5 .i64 VO (8 : Int))) (z1 .u8 (wr .u8 (xi .u32 VT (wr .u32 ((z1 .u32 (1 : Int) VQ) - (1 : Int))))) (xi .i64 VO (7 : Int))))), (78, z9 VV (Int.toNat (x5 .i64 VO (8 : Int)) * 1))]) ⟨rfl, rfl, trivial⟩
     refine qC rfl <| QS (i := (x5 .i64 VO (8 : Int))) (sz := 1) 1 0 ((uk .u8 (rd VR (x5 .i64 VO (8 : Int))) (z1 .u8 (wr .u8 (xi .u32 VT (wr .u32 ((z1 .u32 (1 : Int) VQ) - (1 : Int))))) (xi .i64 VO (7 : Int))))) hS rfl rfl Ua rfl Tryz.sizeOf5 (jc (uk .u8 (rd VR (x5 .i64 VO (8 : Int))) (z1 .u8 (wr .u8 (xi .u32 VT (wr .u32 ((z1 .u32 (1 : Int) VQ) - (1 : Int))))) (xi .i64 VO (7 : Int))))) (fun _ => rfl) Ub rfl rfl fun Ul w UZ hz UV UN hS => ?_
     have hM := qp hz hM; clear hz
     have Uv : xf Ur VS ([.int .i64 VO, .slice VV Ul.length V7, .slice VZ VP.literals_.lengths_.length V3, .slice V0 VP.literals_.codes_.length V4, .slice V1 VP.distances_.lengths_.length V5, .slice V2 VP.distances_.codes_.length V6]) 132 := by rw [UV]; exact V9
     refine qm ?_
     replace hst := hS.st
     obtain ⟨hcl, hmust, hav2, hA⟩ := Qt (vals' := [some (qx VS 0), some (qx VS 0), some (qx VS 1), some (.slice VV VR.length V7), some (qx VS 0), some (qx VS 0), some (qx VS 0), some (qx VS 0), some (.int .i64 VO), some (.int .i64 (x5 .i64 VO (8 : Int))), some (z9 VV (Int.toNat (x5 .i64 VO (8 : Int)) * 1)), some (.int .u8 (rd VR (x5 .i64 VO (8 : Int)))), some (.int .u32 VT), some (.int .i64 VQ), some (.int .u32 (z1 .u32 (1 : Int) VQ)), some (.int .u32 (wr .u32 ((z1 .u32 (1 : Int) VQ) - (1 : Int)))), some (.int .u32 (xi .u32 VT (wr .u32 ((z1 .u32 (1 : Int) VQ) - (1 : Int))))), some (.int .u8 (wr .u8 (xi .u32 VT (wr .u32 ((z1 .u32 (1 : Int) VQ) - (1 : Int)))))), some (qx VS 0), some (qx VS 0), some (qx VS 0), some (qx VS 0), some (.int .i64 VO), some (.int .i64 (xi .i64 VO (7 : Int))), some (.int .u8 (z1 .u8 (wr .u8 (xi .u32 VT (wr .u32 ((z1 .u32 (1 : Int) VQ) - (1 : Int))))) (xi .i64 VO (7 : Int)))), some (.int .u8 (uk .u8 (rd VR (x5 .i64 VO (8 : Int))) (z1 .u8 (wr .u8 (xi .u32 VT (wr .u32 ((z1 .u32 (1 : Int) VQ) - (1 : Int))))) (xi .i64 VO (7 : Int))))), some (z9 VV (Int.toNat (x5 .i64 VO (8 : Int)) * 1)), some undef]) 27 [(0, 27), (1, 27), (2, 27), (3, 27), (4, 27), (5, 27), (6, 27), (7, 27), (8, 27), (9, 27), (10, 27), (11, 27), (12, 27), (13, 27), (14, 27), (15, 27), (16, 27), (17, 27), (18, 27), (19, 27), (20, 27), (21, 27), (22, 27), (23, 27), (24, 27), (25, 27), (26, 27)] hA hcl hav hm hpre rfl rfl rfl rfl rfl
     clear hm hav
     refine xq hA hst ho hcl hmust [] rfl rfl rfl trivial fun a w hS => ?_
     replace hS := hS.env2 (e' := [(0, qx VS 0), (1, .int .u32 VT), (2, .int .i64 VW), (7, .int .i64 VQ)]) ⟨rfl, rfl, rfl, rfl, trivial⟩
     refine qc <| qe <| sM hS rfl fun hS => sM hS rfl fun hS => sO hS (shr rfl rfl Uy) rfl fun hS => qY (v := Value.int .u32) (x0 := (zX .u32 VT VQ)) hS (zE rfl) rfl fun U1 a w hz hS => ?_
     have hM := qp hz hM; clear hz
     refine qm <| qe <| sM hS rfl fun hS => sO hS (xM rfl) rfl fun hS => sO hS (zz rfl Tryz.runUnderlying127 rfl Tryz.sizeOf125 rfl) rfl fun hS => sO hS (zz rfl Tryz.runUnderlying125 rfl Tryz.sizeOf3 rfl) rfl fun hS => sO hS (zU 0 rfl Uv rfl rfl Tryz.isAgg3) rfl fun hS => sM hS rfl fun hS => sB hS rfl fun hS => sO hS (xM rfl) rfl fun hS => sO hS (zz rfl Tryz.runUnderlying127 rfl Tryz.sizeOf125 rfl) rfl fun hS => sO hS (zz rfl Tryz.runUnderlying125 rfl Tryz.sizeOf3 rfl) rfl fun hS => Qr 0 ([.int .i64 (qi (VO + VQ)), .slice VV Ul.length V7, .slice VZ VP.literals_.lengths_.length V3, .slice V0 VP.literals_.codes_.length V4, .slice V1 VP.distances_.lengths_.length V5, .slice V2 VP.distances_.codes_.length V6]) hS rfl rfl Uv rfl rfl rfl rfl Tryz.sizeOf3 fun w U0 UJ hS => qm <| zb <| sM hS rfl fun hS => sM hS rfl fun hS => sB hS rfl fun hS => qY (v := Value.int .i64) (x0 := (qi (VW - VQ))) hS (zE rfl) rfl fun UW a w hz hS => ?_
     have hM := qp hz hM; clear hz
     refine qL <| qW (qc ?_)
     exact UK _ _ ⟨(qi (VO + VQ)), VV, V7, Ul, UZ, U0, U1, UW, hS.to [0, 1, 2, 3, 4, 5] (by kernel_rfl) ⟨rfl, rfl, rfl, trivial⟩, UN, UJ, hM⟩
   ·refine wp_exit ?_
    refine qv (qv (qO (qc ?_)))
    refine qe <| sA hS rfl fun hS => qm <| wp_ret ?_
    exact qP (rs := [6]) hS rfl rfl (hret (0 : Int) VO Uc Ud VU Ui Uj _ (qG hM) Uk V8 (hS.st.pick [0, 1, 2, 3, 4, 5] (by kernel_rfl)))
theorem xS {H : z7} {F : List qj} {w : World} {R : Ending → World → Prop} {kr : (Int × (List Int)) → Prop} {kp : Value → Prop} (hG : Gl H) (K : Nat) (VO : qr) (Uy : qy) (VP : Int) (VS : Nat) (Ui : qj) (Ug : Option Addr) (Uh : Nat) (Uj : qj) (VX : Option Addr) (VY : Nat) (VZ : qj) (VT : Option Addr) (VV : Nat) (V0 : qj) (V3 : Option Addr) (V6 : Nat) (V1 : qj) (V4 : Option Addr) (V7 : Nat) (V2 : qj) (Uz : xf Ui VS ([.int .i64 VO.Writer_.place_.at_, .slice Ug VO.Writer_.bytes_.length Uh, .slice VX VO.literals_.lengths_.length VY, .slice VT VO.literals_.codes_.length VV, .slice V3 VO.distances_.lengths_.length V6, .slice V4 VO.distances_.codes_.length V7]) 132) (UB : zM 5 (ci .u8) 1 Ug VO.Writer_.bytes_ Uh Uj) (Ub : zM 3 (ci .i64) 1 VX VO.literals_.lengths_ VY VZ) (Uc : zM 3 (ci .i64) 1 VT VO.literals_.codes_ VV V0) (UC : zM 3 (ci .i64) 1 V3 VO.distances_.lengths_ V6 V1) (UD : zM 3 (ci .i64) 1 V4 VO.distances_.codes_ V7 V2)
    (hS : St w H [Ui, Uj, VZ, V0, V1, V2] F) (hm : (zy.m K VO Uy VP).wp kr kp)
    (hret : ∀ (Ud : Int) (Uq : Option Addr) (Ur : Nat) (VW : (List Int)) (Uv : qj) (Uw : qj) (w : World), kr (Ud, VW) → (zM 5 (ci .u8) 1 Uq VW Ur Uv) → (xf Uw VS ([.int .i64 Ud, .slice Uq VW.length Ur, .slice VX VO.literals_.lengths_.length VY, .slice VT VO.literals_.codes_.length VV, .slice V3 VO.distances_.lengths_.length V6, .slice V4 VO.distances_.codes_.length V7]) 132) → St w H [Uw, Uv, VZ, V0, V1, V2] F → R (.returned (.tuple ⟨[]⟩)) w) :
    Calls Tryz.prog 94 ⟨[qx VS 0, .agg ⟨[.slice VX VO.literals_.lengths_.length VY, .slice VT VO.literals_.codes_.length VV]⟩, .int .i64 VP]⟩ w R := by
 refine enter Tryz.func94 rfl Tryz.ntmps94 rfl hS fun a w hS => ?_
 have hM := hm; clear hm
 rw [zy.m] at hM
 refine qe <| bx ([.slice VX VO.literals_.lengths_.length VY, .slice VT VO.literals_.codes_.length VV]) hS rfl rfl rfl fun w Ue Us Uk hS => qm <| qe <| sO hS (zz rfl Tryz.runUnderlying130 rfl Tryz.sizeOf128 rfl) rfl fun hS => sO hS (zU 0 rfl Uk rfl rfl Tryz.isAgg128) rfl fun hS => sM hS rfl fun hS => ?_
 obtain ⟨Un, hM⟩ := qt hM
 refine sO hS (xF rfl rfl Tryz.runUnderlying128 Tryz.sizeOf3 (Ub.rd (i := 3) rfl) (fun _ => rfl) rfl Un) rfl fun hS => sO hS (xO rfl (Ub.rd (i := 3) rfl) (fun _ => rfl) Un rfl Tryz.isAgg3) rfl fun hS => sB hS rfl fun hS => qY (v := Value.int .i64) (x0 := (qi ((rd VO.literals_.lengths_ VP) - (1 : Int)))) hS (zE rfl) rfl fun UK a w hz hS => ?_
 have hM := qp hz hM; clear hz
 refine qm <| z3 <| q6 (fun Ux a w => ∃ (VU : Int) (V5 : Option Addr) (V8 : Nat) (VQ : (List Int)) (V9 : qj) (Ua : qj) (VR : Int), Ss 30 [] [(0, qx VS 0), (2, .int .i64 VP), (4, qx Ue 0), (6, .int .i64 VR)] H [Ua, V9, VZ, V0, V1, V2, Us] F a w ∧ (zM 5 (ci .u8) 1 V5 VQ V8 V9) ∧ (xf Ua VS ([.int .i64 VU, .slice V5 VQ.length V8, .slice VX VO.literals_.lengths_.length VY, .slice VT VO.literals_.codes_.length VV, .slice V3 VO.distances_.lengths_.length V6, .slice V4 VO.distances_.codes_.length V7]) 132) ∧ (zy.l1 K VO VP Ux VU VQ VR).wp kr kp) K ?_ ?_ ?_
 ·exact ⟨VO.Writer_.place_.at_, Ug, Uh, VO.Writer_.bytes_, Uj, Ui, UK, hS.to [1, 2, 3, 4, 5, 6, 0] (by kernel_rfl) ⟨rfl, rfl, rfl, rfl, trivial⟩, UB, Uz, hM⟩
 ·intro a w hI; obtain ⟨_, _, _, _, _, _, _, _, _, _, hM⟩ := hI; exact qX hM
 ·intro Ux a w hI UN UA
  obtain ⟨VU, V5, V8, VQ, V9, Ua, VR, hS, Um, Ul, hM⟩ := hI
  rw [zy.l1] at hM
  refine wp_seq <| qe <| sM hS rfl fun hS => sB hS rfl fun hS => qm <| qo hS rfl hM (fun UE hM => ?_) (fun UE hM => ?_)
  ·refine wp_skip ?_
   refine qc <| wp_seq <| z3 ?_
   obtain ⟨Uo, hM⟩ := qt hM
   obtain ⟨UF, hM⟩ := qt hM
   refine qM (vals := [some (qx VS 0), some (qx VS 0), some (qx VS 0), some (qx Ue 1), some (.slice VT VO.literals_.codes_.length VV), some (.int .i64 VP), some (z9 VT (Int.toNat VP * 1)), some (.int .i64 (rd VO.literals_.codes_ VP)), some (.int .i64 VR), some (.int .i64 (zX .i64 (rd VO.literals_.codes_ VP) VR)), some (.int .i64 (xi .i64 (zX .i64 (rd VO.literals_.codes_ VP) VR) (1 : Int))), some (.int .u32 (wr .u32 (xi .i64 (zX .i64 (rd VO.literals_.codes_ VP) VR) (1 : Int)))), none]) hS zV rfl ?_
   intro l w ho hcl hA hst
   refine x4 hA hst ho hcl zO zW 12 [0, 1, 2, 3, 4, 5, 6, 7, 8, 9, 10, 11] rfl rfl rfl rfl rfl (by exact ⟨nM rfl, nQ rfl (by exact qJ (xM rfl) rfl), nQ rfl (by exact qJ (zz rfl Tryz.runUnderlying132 rfl Tryz.sizeOf127 rfl) rfl), nQ rfl (by exact qJ (zz rfl Tryz.runUnderlying130 rfl Tryz.sizeOf128 rfl) rfl), nQ rfl (by exact qJ (zU 6 rfl Uk rfl rfl Tryz.isAgg128) rfl), nM rfl, nQ rfl (by exact qJ (xF rfl rfl Tryz.runUnderlying128 Tryz.sizeOf3 (Uc.rd (i := 3) rfl) (fun _ => rfl) rfl Uo) rfl), nQ rfl (by exact qJ (xO rfl (Uc.rd (i := 3) rfl) (fun _ => rfl) Uo rfl Tryz.isAgg3) rfl), nM rfl, nQ rfl (by exact qJ (shr rfl rfl UF) rfl), nB rfl, nQ rfl (by exact qJ (yT rfl Tryz.runUnderlying3 Tryz.runUnderlying56) rfl), trivial⟩) fun D l a w ho hcl hav hpre hm hE hk hA hst => ?_
   have hS := (Ss.mk hE hst).env2 (e' := [(19, qx VS 0), (28, .int .u32 (wr .u32 (xi .i64 (zX .i64 (rd VO.literals_.codes_ VP) VR) (1 : Int))))]) ⟨rfl, rfl, trivial⟩
   refine qC rfl <| qq hS rfl Tryz.call85 (q9 hG K (qr.mk (qQ.mk (qs.mk VU) VQ) VO.literals_ VO.distances_) (wr .u32 (xi .i64 (zX .i64 (rd VO.literals_.codes_ VP) VR) (1 : Int))) (1 : Int) VS Ua V5 V8 V9 VX VY VZ VT VV V0 V3 V6 V1 V4 V7 V2 Ul Um Ub Uc UC UD (hS.st.part 6 [0, 1, 2, 3, 4, 5, 6] (by kernel_rfl)) (qh hM) (fun UM Up UG UH Uf Ut Uu w hM UI UJ hst => qn hS.ev hst.appF rfl fun hS => ?_))
   replace hS : Ss _ _ _ H [Uu, Ut, VZ, V0, V1, V2, Us] F _ _ := hS
   refine qm ?_
   replace hst := hS.st
   obtain ⟨hcl, hmust, hav2, hA⟩ := dn (vals' := [some (qx VS 0), some (qx VS 0), some (qx VS 0), some (qx Ue 1), some (.slice VT VO.literals_.codes_.length VV), some (.int .i64 VP), some (z9 VT (Int.toNat VP * 1)), some (.int .i64 (rd VO.literals_.codes_ VP)), some (.int .i64 VR), some (.int .i64 (zX .i64 (rd VO.literals_.codes_ VP) VR)), some (.int .i64 (xi .i64 (zX .i64 (rd VO.literals_.codes_ VP) VR) (1 : Int))), some (.int .u32 (wr .u32 (xi .i64 (zX .i64 (rd VO.literals_.codes_ VP) VR) (1 : Int)))), some (.int .i64 UM)]) 12 [(2, 12), (11, 12), (1, 2), (10, 11), (0, 1), (9, 10), (7, 9), (8, 9), (6, 7), (4, 6), (5, 6), (3, 4)] hA hcl hav hm hpre hk rfl rfl rfl rfl rfl rfl rfl
   clear hm hav
   refine xq hA hst ho hcl hmust [] rfl rfl rfl trivial fun a w hS => ?_
   replace hS := hS.env2 (e' := [(0, qx VS 0), (2, .int .i64 VP), (4, qx Ue 0), (6, .int .i64 VR)]) ⟨rfl, rfl, rfl, rfl, trivial⟩
   refine qW (qc ?_)
   refine zb <| sM hS rfl fun hS => sB hS rfl fun hS => qY (v := Value.int .i64) (x0 := (qi (VR - (1 : Int)))) hS (zE rfl) rfl fun UL a w hz hS => ?_
   have hM := qp hz hM; clear hz
   refine qL <| qc ?_
   exact UA _ _ ⟨Up, UG, UH, Uf, Ut, Uu, UL, hS.to [0, 1, 2, 3, 4, 5, 6] (by kernel_rfl) ⟨rfl, rfl, rfl, rfl, trivial⟩, UI, UJ, hM⟩
  ·refine wp_exit ?_
   refine qv (qv (qO ?_))
   exact yW (rs := []) hS rfl rfl (hret VU V5 V8 VQ V9 Ua _ (qG hM) Um Ul (hS.st.pick [0, 1, 2, 3, 4, 5] (by kernel_rfl)))
theorem vp {H : z7} {F : List qj} {w : World} {R : Ending → World → Prop} {kr : (Int × Int × Int) → Prop} {kp : Value → Prop} (hG : Gl H) (K : Nat) (VR : Int) (VQ : Int)
    (hS : St w H [] F) (hm : (xb.m K VR VQ).wp kr kp)
    (hret : ∀ (VU : Int) (VV : Int) (VW : Int) (w : World), kr (VU, VV, VW) → St w H [] F → R (.returned (.agg ⟨[.int .i64 VU, .int .i64 VV, .int .u32 VW]⟩)) w) :
    Calls Tryz.prog 111 ⟨[.int .i64 VR, .int .i64 VQ]⟩ w R := by
 refine enter Tryz.func111 rfl Tryz.ntmps111 rfl hS fun a w hS => ?_
 have hM := hm; clear hm
 rw [xb.m] at hM
 refine qe <| jz ([.int .i64 (0 : Int), .int .i64 (0 : Int), .int .u32 (0 : Int)]) hS Tryz.zeroValue138 rfl rfl fun w VX VZ V1 hS => qm <| qe <| sM hS rfl fun hS => sA hS rfl fun hS => sA hS rfl fun hS => qm <| qV (fun a w => ∃ (VO : Int) (VP : Int), Ss 29 [] [(0, .int .i64 VR), (1, .int .i64 VQ), (4, qx VX 0), (5, .int .i64 VO), (6, .int .i64 VP)] H [VZ] F a w ∧ (xb.j2 K VR VQ VO VP).wp kr kp) (fun Ub V4 => ?_) ?_
 ·refine z3 ?_
  refine q6 (fun V0 a w => ∃ (VT : Int) (VS : Int), Ss 29 [] [(0, .int .i64 VR), (1, .int .i64 VQ), (4, qx VX 0), (5, .int .i64 VT), (6, .int .i64 VS)] H [VZ] F a w ∧ (xb.l1 K VR VQ V0 VT VS).wp kr kp) K ?_ ?_ ?_
  ·exact ⟨(0 : Int), VR, hS.to [0] (by kernel_rfl) ⟨rfl, rfl, rfl, rfl, rfl, trivial⟩, hM⟩
  ·intro a w hI; obtain ⟨_, _, _, hM⟩ := hI; exact qX hM
  ·intro V0 a w hI Ua V3
   obtain ⟨VT, VS, hS, hM⟩ := hI
   rw [xb.l1] at hM
   refine wp_seq <| qe <| sM hS rfl fun hS => sM hS rfl fun hS => ?_
   obtain ⟨V6, hM⟩ := qt hM
   refine sO hS (shl rfl rfl V6) rfl fun hS => sB hS rfl fun hS => qm <| qo hS rfl hM (fun V5 hM => ?_) (fun V5 hM => ?_)
   ·refine wp_skip ?_
    refine qc <| z3 <| qe <| sM hS rfl fun hS => sO hS (shr rfl rfl rfl) rfl fun hS => qY (v := Value.int .i64) (x0 := (zX .i64 VS (1 : Int))) hS (zE rfl) rfl fun VY a w hz hS => ?_
    have hM := qp hz hM; clear hz
    refine qm <| zb <| sM hS rfl fun hS => sB hS rfl fun hS => qY (v := Value.int .i64) (x0 := (qi (VT + (1 : Int)))) hS (zE rfl) rfl fun V9 a w hz hS => ?_
    have hM := qp hz hM; clear hz
    refine qL <| qW (qc ?_)
    exact V3 _ _ ⟨V9, VY, hS.to [0] (by kernel_rfl) ⟨rfl, rfl, rfl, rfl, rfl, trivial⟩, hM⟩
   ·refine wp_exit ?_
    refine qv (qv (qO (qc ?_)))
    exact V4 _ _ ⟨VT, VS, hS.to [0] (by kernel_rfl) ⟨rfl, rfl, rfl, rfl, rfl, trivial⟩, hM⟩
 ·intro a w hI
  obtain ⟨VO, VP, hS, hM⟩ := hI
  rw [xb.j2] at hM
  refine wp_seq ?_
  obtain ⟨V7, hM⟩ := qt hM
  obtain ⟨V8, hM⟩ := qt hM
  refine qM (vals := [some (.int .i64 VO), some (.int .i64 VQ), some (.int .i64 (z1 .i64 VO VQ)), some (.int .i64 VP), some (.int .i64 (qi ((z1 .i64 VO VQ) + VP))), some (.int .i64 VO), some (.int .i64 VR), some (.int .i64 VP), some (.int .i64 VO), some (.int .i64 (z1 .i64 VP VO)), some (.int .i64 (qi (VR - (z1 .i64 VP VO)))), some (.int .u32 (wr .u32 (qi (VR - (z1 .i64 VP VO))))), some (.agg ⟨[.int .i64 (qi ((z1 .i64 VO VQ) + VP)), .int .i64 VO, .int .u32 (wr .u32 (qi (VR - (z1 .i64 VP VO))))]⟩), none]) hS zV rfl ?_
  intro l w ho hcl hA hst
  refine x4 hA hst ho hcl zO zW 13 [0, 1, 2, 3, 4, 5, 6, 7, 8, 9, 10, 11, 12] rfl rfl rfl rfl rfl (by exact ⟨nM rfl, nM rfl, nQ rfl (by exact qJ (shl rfl rfl V7) rfl), nM rfl, nB rfl, nM rfl, nM rfl, nM rfl, nM rfl, nQ rfl (by exact qJ (shl rfl rfl V8) rfl), nB rfl, nQ rfl (by exact qJ (yT rfl Tryz.runUnderlying3 Tryz.runUnderlying56) rfl), nQ rfl (by exact qJ (vI ([.int .i64 (qi ((z1 .i64 VO VQ) + VP)), .int .i64 VO, .int .u32 (wr .u32 (qi (VR - (z1 .i64 VP VO))))]) [(0, 1), (1, 1), (2, 1)] Tryz.zeroValue138 Tryz.runUnderlying138 (by intro w; simp [Tryz.sizeOf3, Tryz.sizeOf56]) rfl rfl) rfl), trivial⟩) fun D l a w ho hcl hav hpre hm hE hk hA hst => ?_
  have hS := (Ss.mk hE hst).env2 (e' := [(4, qx VX 0), (28, .agg ⟨[.int .i64 (qi ((z1 .i64 VO VQ) + VP)), .int .i64 VO, .int .u32 (wr .u32 (qi (VR - (z1 .i64 VP VO))))]⟩)]) ⟨rfl, rfl, trivial⟩
  refine qC rfl <| jn 0 ([.int .i64 (qi ((z1 .i64 VO VQ) + VP)), .int .i64 VO, .int .u32 (wr .u32 (qi (VR - (z1 .i64 VP VO))))]) ([.int .i64 (qi ((z1 .i64 VO VQ) + VP)), .int .i64 VO, .int .u32 (wr .u32 (qi (VR - (z1 .i64 VP VO))))]) hS rfl rfl V1 rfl rfl Tryz.sizeOf138 (by simp [Value.oneCell']) (Nat.le_of_ble_eq_true rfl) rfl fun w Uc V2 hS => qm ?_
  replace hst := hS.st
  obtain ⟨hcl, hmust, hav2, hA⟩ := Qt (vals' := [some (.int .i64 VO), some (.int .i64 VQ), some (.int .i64 (z1 .i64 VO VQ)), some (.int .i64 VP), some (.int .i64 (qi ((z1 .i64 VO VQ) + VP))), some (.int .i64 VO), some (.int .i64 VR), some (.int .i64 VP), some (.int .i64 VO), some (.int .i64 (z1 .i64 VP VO)), some (.int .i64 (qi (VR - (z1 .i64 VP VO)))), some (.int .u32 (wr .u32 (qi (VR - (z1 .i64 VP VO))))), some (.agg ⟨[.int .i64 (qi ((z1 .i64 VO VQ) + VP)), .int .i64 VO, .int .u32 (wr .u32 (qi (VR - (z1 .i64 VP VO))))]⟩), some undef]) 13 [(0, 13), (1, 13), (2, 13), (3, 13), (4, 13), (5, 13), (6, 13), (7, 13), (8, 13), (9, 13), (10, 13), (11, 13), (12, 13)] hA hcl hav hm hpre rfl rfl rfl rfl rfl
  clear hm hav
  refine xq hA hst ho hcl hmust [] rfl rfl rfl trivial fun a w hS => ?_
  replace hS := hS.env2 (e' := [(4, qx VX 0)]) ⟨rfl, trivial⟩
  refine qc <| wp_ret ?_
  exact xI (vs := [.agg ⟨[.int .i64 (qi ((z1 .i64 VO VQ) + VP)), .int .i64 VO, .int .u32 (wr .u32 (qi (VR - (z1 .i64 VP VO))))]⟩]) hS rfl (by exact ⟨Qq 0 ([.int .i64 (qi ((z1 .i64 VO VQ) + VP)), .int .i64 VO, .int .u32 (wr .u32 (qi (VR - (z1 .i64 VP VO))))]) rfl V2 rfl rfl rfl Tryz.isAgg138 Tryz.sizeOf138, trivial⟩) (hret (qi ((z1 .i64 VO VQ) + VP)) VO (wr .u32 (qi (VR - (z1 .i64 VP VO)))) _ (qG hM) (hS.st.pick [] (by kernel_rfl)))
theorem vo {H : z7} {F : List qj} {w : World} {R : Ending → World → Prop} {kr : (Int × Int × Int) → Prop} {kp : Value → Prop} (hG : Gl H) (K : Nat) (VU : Int)
    (hS : St w H [] F) (hm : (y5.m K VU).wp kr kp)
    (hret : ∀ (VR : Int) (VS : Int) (VT : Int) (w : World), kr (VR, VS, VT) → St w H [] F → R (.returned (.agg ⟨[.int .i64 VR, .int .i64 VS, .int .u32 VT]⟩)) w) :
    Calls Tryz.prog 88 ⟨[.int .i64 VU]⟩ w R := by
 refine enter Tryz.func88 rfl Tryz.ntmps88 rfl hS fun a w hS => ?_
 have hM := hm; clear hm
 rw [y5.m] at hM
 refine qe <| jz ([.int .i64 (0 : Int), .int .i64 (0 : Int), .int .u32 (0 : Int)]) hS Tryz.zeroValue138 rfl rfl fun w V3 V2 VV hS => qm <| wp_seq <| qe <| sM hS rfl fun hS => sB hS rfl fun hS => qm <| qo hS rfl hM (fun V1 hM => ?_) (fun V1 hM => ?_)
 ·refine wp_seq ?_
  refine zb <| sO hS (vI ([.int .i64 (285 : Int), .int .i64 (0 : Int), .int .u32 (0 : Int)]) [(0, 1), (1, 1), (2, 1)] Tryz.zeroValue138 Tryz.runUnderlying138 (by intro w; simp [Tryz.sizeOf3, Tryz.sizeOf56]) rfl rfl) rfl fun hS => jn 0 ([.int .i64 (285 : Int), .int .i64 (0 : Int), .int .u32 (0 : Int)]) ([.int .i64 (285 : Int), .int .i64 (0 : Int), .int .u32 (0 : Int)]) hS rfl rfl VV rfl rfl Tryz.sizeOf138 (by simp [Value.oneCell']) (Nat.le_of_ble_eq_true rfl) rfl fun w V5 VX hS => qm <| wp_ret <| qu ?_
  exact xI (vs := [.agg ⟨[.int .i64 (285 : Int), .int .i64 (0 : Int), .int .u32 (0 : Int)]⟩]) hS rfl (by exact ⟨Qq 0 ([.int .i64 (285 : Int), .int .i64 (0 : Int), .int .u32 (0 : Int)]) rfl VX rfl rfl rfl Tryz.isAgg138 Tryz.sizeOf138, trivial⟩) (hret (285 : Int) (0 : Int) (0 : Int) _ (qG hM) (hS.st.pick [] (by kernel_rfl)))
 ·refine wp_skip ?_
  refine qc <| qe <| sM hS rfl fun hS => sB hS rfl fun hS => qq hS rfl Tryz.call111 (vp hG K (qi (VU - (3 : Int))) (2 : Int) (hS.st.part 0 [0] (by kernel_rfl)) (qh hM) (fun VO VP VQ w hM  hst => qn hS.ev hst.appF rfl fun hS => ?_))
  replace hS : Ss _ _ _ H [V2] F _ _ := hS
  refine jz ([.int .i64 (0 : Int), .int .i64 (0 : Int), .int .u32 (0 : Int)]) hS Tryz.zeroValue138 rfl rfl fun w V4 V6 VY hS => jn 0 ([.int .i64 VO, .int .i64 VP, .int .u32 VQ]) ([.int .i64 VO, .int .i64 VP, .int .u32 VQ]) hS rfl rfl VY rfl rfl Tryz.sizeOf138 (by simp [Value.oneCell']) (Nat.le_of_ble_eq_true rfl) rfl fun w V7 VW hS => qm <| qe <| sO hS (zz rfl Tryz.runUnderlying138 rfl Tryz.sizeOf3 rfl) rfl fun hS => sO hS (zU 0 rfl VW rfl rfl Tryz.isAgg3) rfl fun hS => sB hS rfl fun hS => sO hS (zz rfl Tryz.runUnderlying138 rfl Tryz.sizeOf3 rfl) rfl fun hS => Qr 0 ([.int .i64 (qi (VO + (257 : Int))), .int .i64 VP, .int .u32 VQ]) hS rfl rfl VW rfl rfl rfl rfl Tryz.sizeOf3 fun w V8 VZ hS => qm <| qe <| sO hS (yz 0 rfl VZ rfl ([.int .i64 (qi (VO + (257 : Int))), .int .i64 VP, .int .u32 VQ]) rfl rfl Tryz.isAgg138 Tryz.sizeOf138) rfl fun hS => jn 1 ([.int .i64 (qi (VO + (257 : Int))), .int .i64 VP, .int .u32 VQ]) ([.int .i64 (qi (VO + (257 : Int))), .int .i64 VP, .int .u32 VQ]) hS rfl rfl VV rfl rfl Tryz.sizeOf138 (by simp [Value.oneCell']) (Nat.le_of_ble_eq_true rfl) rfl fun w V9 V0 hS => qm <| wp_ret ?_
  exact xI (vs := [.agg ⟨[.int .i64 (qi (VO + (257 : Int))), .int .i64 VP, .int .u32 VQ]⟩]) hS rfl (by exact ⟨Qq 1 ([.int .i64 (qi (VO + (257 : Int))), .int .i64 VP, .int .u32 VQ]) rfl V0 rfl rfl rfl Tryz.isAgg138 Tryz.sizeOf138, trivial⟩) (hret (qi (VO + (257 : Int))) VP VQ _ (qG hM) (hS.st.pick [] (by kernel_rfl)))
theorem jQ {H : z7} {F : List qj} {w : World} {R : Ending → World → Prop} {kr : (Int × (List Int)) → Prop} {kp : Value → Prop} (hG : Gl H) (K : Nat) (VO : qr) (Ut : qy) (VP : xr) (VQ : Nat) (Ub : qj) (V9 : Option Addr) (Ua : Nat) (Uc : qj) (VS : Option Addr) (VU : Nat) (VW : qj) (VT : Option Addr) (VV : Nat) (VX : qj) (V0 : Option Addr) (V2 : Nat) (VY : qj) (V1 : Option Addr) (V3 : Nat) (VZ : qj) (Uu : xf Ub VQ ([.int .i64 VO.Writer_.place_.at_, .slice V9 VO.Writer_.bytes_.length Ua, .slice VS VO.literals_.lengths_.length VU, .slice VT VO.literals_.codes_.length VV, .slice V0 VO.distances_.lengths_.length V2, .slice V1 VO.distances_.codes_.length V3]) 132) (Uw : zM 5 (ci .u8) 1 V9 VO.Writer_.bytes_ Ua Uc) (Ud : zM 3 (ci .i64) 1 VS VO.literals_.lengths_ VU VW) (Ue : zM 3 (ci .i64) 1 VT VO.literals_.codes_ VV VX) (Uf : zM 3 (ci .i64) 1 V0 VO.distances_.lengths_ V2 VY) (Ug : zM 3 (ci .i64) 1 V1 VO.distances_.codes_ V3 VZ)
    (hS : St w H [Ub, Uc, VW, VX, VY, VZ] F) (hm : (yb.m K VO Ut VP).wp kr kp)
    (hret : ∀ (V5 : Int) (Uj : Option Addr) (Uk : Nat) (VR : (List Int)) (Ur : qj) (Us : qj) (w : World), kr (V5, VR) → (zM 5 (ci .u8) 1 Uj VR Uk Ur) → (xf Us VQ ([.int .i64 V5, .slice Uj VR.length Uk, .slice VS VO.literals_.lengths_.length VU, .slice VT VO.literals_.codes_.length VV, .slice V0 VO.distances_.lengths_.length V2, .slice V1 VO.distances_.codes_.length V3]) 132) → St w H [Us, Ur, VW, VX, VY, VZ] F → R (.returned (.tuple ⟨[]⟩)) w) :
    Calls Tryz.prog 110 ⟨[qx VQ 0, .agg ⟨[.slice VS VO.literals_.lengths_.length VU, .slice VT VO.literals_.codes_.length VV]⟩, .agg ⟨[.int .i64 VP.symbol_, .int .i64 VP.bits_, .int .u32 VP.more_]⟩]⟩ w R := by
 refine enter Tryz.func110 rfl Tryz.ntmps110 rfl hS fun a w hS => ?_
 have hM := hm; clear hm
 rw [yb.m] at hM
 refine qe <| bx ([.slice VS VO.literals_.lengths_.length VU, .slice VT VO.literals_.codes_.length VV]) hS rfl rfl rfl fun w UG Ul Uv hS => bx ([.int .i64 VP.symbol_, .int .i64 VP.bits_, .int .u32 VP.more_]) hS rfl rfl rfl fun w V6 Um V4 hS => qm <| qe <| sM hS rfl fun hS => sO hS (yz 1 rfl Uv rfl ([.slice VS VO.literals_.lengths_.length VU, .slice VT VO.literals_.codes_.length VV]) rfl rfl Tryz.isAgg130 Tryz.sizeOf130) rfl fun hS => sO hS (zz rfl Tryz.runUnderlying138 rfl Tryz.sizeOf3 rfl) rfl fun hS => sO hS (zU 0 rfl V4 rfl rfl Tryz.isAgg3) rfl fun hS => qq hS rfl Tryz.call94 (xS hG K VO VO.literals_ VP.symbol_ VQ Ub V9 Ua Uc VS VU VW VT VV VX V0 V2 VY V1 V3 VZ Uu Uw Ud Ue Uf Ug (hS.st.part 6 [2, 3, 4, 5, 6, 7, 0, 1] (by kernel_rfl)) (qh hM) (fun Uh Ux Uz V7 Un Uo w hM UB UC hst => qn hS.ev hst.appF rfl fun hS => ?_))
 replace hS : Ss _ _ _ H [Uo, Un, VW, VX, VY, VZ, Um, Ul] F _ _ := hS
 refine qm <| qM (vals := [some (qx VQ 0), some (qx VQ 0), some (qx VQ 0), some (qx V6 2), some (.int .u32 VP.more_), some (qx V6 1), some (.int .i64 VP.bits_), none]) hS zV rfl ?_
 intro l w ho hcl hA hst
 refine x4 hA hst ho hcl zO zW 7 [0, 1, 2, 3, 4, 5, 6] rfl rfl rfl rfl rfl (by exact ⟨nM rfl, nQ rfl (by exact qJ (xM rfl) rfl), nQ rfl (by exact qJ (zz rfl Tryz.runUnderlying132 rfl Tryz.sizeOf127 rfl) rfl), nQ rfl (by exact qJ (zz rfl Tryz.runUnderlying138 rfl Tryz.sizeOf56 rfl) rfl), nQ rfl (by exact qJ (zU 6 rfl V4 rfl rfl Tryz.isAgg56) rfl), nQ rfl (by exact qJ (zz rfl Tryz.runUnderlying138 rfl Tryz.sizeOf3 rfl) rfl), nQ rfl (by exact qJ (zU 6 rfl V4 rfl rfl Tryz.isAgg3) rfl), trivial⟩) fun D l a w ho hcl hav hpre hm hE hk hA hst => ?_
 have hS := (Ss.mk hE hst).env2 (e' := [(13, qx VQ 0), (15, .int .u32 VP.more_), (17, .int .i64 VP.bits_)]) ⟨rfl, rfl, rfl, trivial⟩
 refine qC rfl <| qq hS rfl Tryz.call85 (q9 hG K (qr.mk (qQ.mk (qs.mk Uh) V7) VO.literals_ VO.distances_) VP.more_ VP.bits_ VQ Uo Ux Uz Un VS VU VW VT VV VX V0 V2 VY V1 V3 VZ UC UB Ud Ue Uf Ug (hS.st.part 6 [0, 1, 2, 3, 4, 5, 6, 7] (by kernel_rfl)) (qh hM) (fun UF Ui Uy UA V8 Up Uq w hM UD UE hst => qn hS.ev hst.appF rfl fun hS => ?_))
 replace hS : Ss _ _ _ H [Uq, Up, VW, VX, VY, VZ, Um, Ul] F _ _ := hS
 refine qm ?_
 replace hst := hS.st
 obtain ⟨hcl, hmust, hav2, hA⟩ := dn (vals' := [some (qx VQ 0), some (qx VQ 0), some (qx VQ 0), some (qx V6 2), some (.int .u32 VP.more_), some (qx V6 1), some (.int .i64 VP.bits_), some (.int .i64 UF)]) 7 [(2, 7), (4, 7), (6, 7), (1, 2), (3, 4), (5, 6), (0, 1)] hA hcl hav hm hpre hk rfl rfl rfl rfl rfl rfl rfl
 clear hm hav
 refine xq hA hst ho hcl hmust [] rfl rfl rfl trivial fun a w hS => ?_
 replace hS := hS.env2 (e' := []) trivial
 exact yW (rs := []) hS rfl rfl (hret Ui Uy UA V8 Up Uq _ (qG hM) UD UE (hS.st.pick [0, 1, 2, 3, 4, 5] (by kernel_rfl)))
theorem jO {H : z7} {F : List qj} {w : World} {R : Ending → World → Prop} {kr : (Int × Int × Int) → Prop} {kp : Value → Prop} (hG : Gl H) (K : Nat) (VU : Int)
    (hS : St w H [] F) (hm : (yN.m K VU).wp kr kp)
    (hret : ∀ (VR : Int) (VS : Int) (VT : Int) (w : World), kr (VR, VS, VT) → St w H [] F → R (.returned (.agg ⟨[.int .i64 VR, .int .i64 VS, .int .u32 VT]⟩)) w) :
    Calls Tryz.prog 89 ⟨[.int .i64 VU]⟩ w R := by
 refine enter Tryz.func89 rfl Tryz.ntmps89 rfl hS fun a w hS => ?_
 have hM := hm; clear hm
 rw [yN.m] at hM
 refine qe <| jz ([.int .i64 (0 : Int), .int .i64 (0 : Int), .int .u32 (0 : Int)]) hS Tryz.zeroValue138 rfl rfl fun w VY VX VV hS => qm <| qe <| sM hS rfl fun hS => sB hS rfl fun hS => qq hS rfl Tryz.call111 (vp hG K (qi (VU - (1 : Int))) (1 : Int) (hS.st.part 0 [0] (by kernel_rfl)) (qh hM) (fun VO VP VQ w hM  hst => qn hS.ev hst.appF rfl fun hS => ?_))
 replace hS : Ss _ _ _ H [VX] F _ _ := hS
 refine jn 0 ([.int .i64 VO, .int .i64 VP, .int .u32 VQ]) ([.int .i64 VO, .int .i64 VP, .int .u32 VQ]) hS rfl rfl VV rfl rfl Tryz.sizeOf138 (by simp [Value.oneCell']) (Nat.le_of_ble_eq_true rfl) rfl fun w VZ VW hS => qm <| wp_ret ?_
 exact xI (vs := [.agg ⟨[.int .i64 VO, .int .i64 VP, .int .u32 VQ]⟩]) hS rfl (by exact ⟨Qq 0 ([.int .i64 VO, .int .i64 VP, .int .u32 VQ]) rfl VW rfl rfl rfl Tryz.isAgg138 Tryz.sizeOf138, trivial⟩) (hret VO VP VQ _ (qG hM) (hS.st.pick [] (by kernel_rfl)))
end Go.TryzS

