/- Printed by a program of mine: each Go function answers what its model answers; conditions: what each theorem asks of memory. -/
import Derived.Test.YtojcnkhcdcegkaaDoorMclkck
import Derived.Test.YtojcnkhcdcegkaaDoorChecked
set_option linter.unusedVariables false
set_option linter.unusedSimpArgs false
set_option maxRecDepth 100000
namespace Go.TrydS
open Go Go.Sl Go.Mo Go.Proofs
attribute [local irreducible] qN.wp
theorem xG : Tryd.prog.follows .mixedOrders = true := by kernel_rfl
def _root_.Go.Mo.yd.cells (x : yd) : List Value := [xi x.text_, .int .i64 x.base_]
def _root_.Go.Mo.qr.cells (x : qr) : List Value := [.int .i64 x.at_]
def _root_.Go.Mo.qG.cells (x : qG) : List Value := [.int .i64 x.place_.at_, xi x.text_]
def _root_.Go.Mo.xA.cells (x : xA) : List Value := [.int .i64 x.from_, .int .i64 x.bits_]
def _root_.Go.Mo.qM.cells (x : qM) : List Value := [.int .u8 x.Lit_, .int .i64 x.Len_, .int .i64 x.Dist_]
def _root_.Go.Mo.xV.cells (x : xV) : List Value := [.int .i64 x.symbol_, .int .i64 x.bits_, .int .u32 x.more_]
def _root_.Go.Mo.qi.cells (x : qi) : List Value := [.int .i64 x.symbol_, .int .i64 x.more_, .int .i64 x.bits_]
theorem X.el3 : El Tryd.prog 3 1 8 := ⟨_, _, Tryd.typeInfo3, rfl, rfl, rfl, rfl⟩
theorem X.el5 : El Tryd.prog 5 1 1 := ⟨_, _, Tryd.typeInfo5, rfl, rfl, rfl, rfl⟩
theorem X.el57 : El Tryd.prog 57 3 24 := ⟨_, _, Tryd.typeInfo57, rfl, rfl, rfl, rfl⟩
theorem X.el66 : El Tryd.prog 66 1 24 := ⟨_, _, Tryd.typeInfo66, rfl, rfl, rfl, rfl⟩
theorem X.el84 : El Tryd.prog 84 3 24 := ⟨_, _, Tryd.typeInfo84, rfl, rfl, rfl, rfl⟩
theorem X.el110 : El Tryd.prog 110 1 24 := ⟨_, _, Tryd.typeInfo110, rfl, rfl, rfl, rfl⟩
theorem X.el112 : El Tryd.prog 112 2 32 := ⟨_, _, Tryd.typeInfo112, rfl, rfl, rfl, rfl⟩
theorem xJ : ∀ x, ∀ u ∈ (ci .i64) x, u.oneCell' = true := fun x u hu => by cases hu with | head => rfl | tail _ h => cases h
theorem Qv : ∀ x, ∀ u ∈ (ci .u8) x, u.oneCell' = true := fun x u hu => by cases hu with | head => rfl | tail _ h => cases h
theorem DZ : ∀ x, ∀ u ∈ qM.cells x, u.oneCell' = true := by
  intro x u hu
  simp only [qM.cells, List.mem_cons, List.not_mem_nil, or_false] at hu
  rcases hu with rfl | rfl | rfl <;> rfl
theorem XA : ∀ x, ∀ u ∈ qi.cells x, u.oneCell' = true := by
  intro x u hu
  simp only [qi.cells, List.mem_cons, List.not_mem_nil, or_false] at hu
  rcases hu with rfl | rfl | rfl <;> rfl
structure Gl (H : xT) : Prop where
  g0 : ∃ T fr, H 0 = some (.cells ⟨tab_deflate_order.flatMap (ci .i64)⟩ T fr)
  g1 : ∃ T fr, H 1 = some (.cells ⟨tab_inflate_lengths.flatMap xA.cells⟩ T fr)
  g2 : ∃ T fr, H 2 = some (.cells ⟨tab_inflate_distances.flatMap xA.cells⟩ T fr)
  g3 : ∃ T fr, H 3 = some (.cells ⟨tab_inflate_order.flatMap (ci .i64)⟩ T fr)
theorem V4 {H : xT} {F : List qk} {w : World} {R : Ending → World → Prop} {kr : Unit → Prop} {kp : Value → Prop} (hG : Gl H) (K : Nat) (s7 : List UInt8)
    (hS : St w H [] F) (hm : (YA.m K s7).wp kr kp)
    (hret : ∀ (w : World), kr () → St w H [] F → R (.returned (.agg ⟨[xi s7, .int .i64 (0 : Int)]⟩)) w) :
    Calls Tryd.prog 20 ⟨[xi s7]⟩ w R := by
 refine enter Tryd.func20 rfl Tryd.ntmps20 rfl hS fun a w hS => ?_
 have hM := hm; clear hm
 rw [YA.m] at hM
 refine qm <| QF ([xi ([] : List UInt8), .int .i64 (0 : Int)]) hS Tryd.zeroValue44 rfl rfl fun w b8 f9 MR hS => qA <| qm <| sM hS rfl fun hS => sO hS (Xr ([xi s7, .int .i64 (0 : Int)]) [(0, 1), (1, 1)] Tryd.zeroValue44 Tryd.runUnderlying44 (by intro w; simp [Tryd.sizeOf3, Tryd.sizeOf9]) rfl rfl) rfl fun hS => QU 0 ([xi s7, .int .i64 (0 : Int)]) ([xi s7, .int .i64 (0 : Int)]) hS rfl rfl MR rfl rfl Tryd.sizeOf44 (by simp [Value.oneCell']) (Nat.le_of_ble_eq_true rfl) rfl fun w MT MS hS => qA <| wp_ret ?_
 exact jk (vs := [.agg ⟨[xi s7, .int .i64 (0 : Int)]⟩]) hS rfl (by exact ⟨Kf 0 ([xi s7, .int .i64 (0 : Int)]) rfl MS rfl rfl rfl Tryd.isAgg44 Tryd.sizeOf44, trivial⟩) (hret _ (q8 hM) (hS.st.pick [] (by kernel_rfl)))
theorem QY {H : xT} {F : List qk} {w : World} {R : Ending → World → Prop} {kr : Bool → Prop} {kp : Value → Prop} (hG : Gl H) (K : Nat) (MR : Int)
    (hS : St w H [] F) (hm : (vo.m K MR).wp kr kp)
    (hret : ∀ (MS : Bool) (w : World), kr MS → St w H [] F → R (.returned (.bool MS)) w) :
    Calls Tryd.prog 22 ⟨[.int .i64 MR]⟩ w R := by
 refine enter Tryd.func22 rfl Tryd.ntmps22 rfl hS fun a w hS => ?_
 have hM := hm; clear hm
 rw [vo.m] at hM
 refine qm <| sA hS rfl fun hS => qA <| qm <| sM hS rfl fun hS => sB hS rfl fun hS => sM hS rfl fun hS => yJ 2 true 5 (b := (decide (MR > (0 : Int)))) (r := (decide (MR ≤ (8 : Int)))) hS rfl rfl rfl rfl rfl rfl rfl (fun hb a w hS K hK => ?_) rfl fun a w hS => ?_
 ·refine zW hS rfl rfl rfl hb (mv rfl) rfl fun a w hS => ?_
  refine zW hS rfl rfl rfl hb (js rfl rfl rfl) rfl fun a w hS => ?_
  exact zn (hK _ _ (hS.up 2 rfl rfl))
 refine sM hS rfl fun hS => yJ 5 true 9 (b := ((decide (MR > (0 : Int))) && (decide (MR ≤ (8 : Int))))) (r := ((xE .i64 MR (qh (MR - (1 : Int)))) == (0 : Int))) hS rfl rfl rfl rfl rfl rfl rfl (fun hb a w hS K hK => ?_) rfl fun a w hS => ?_
 ·refine zW hS rfl rfl rfl hb (mv rfl) rfl fun a w hS => ?_
  refine zW hS rfl rfl rfl hb (mv rfl) rfl fun a w hS => zW hS rfl rfl rfl hb (js rfl rfl rfl) rfl fun a w hS => zW hS rfl rfl rfl hb (js rfl rfl rfl) rfl fun a w hS => zW hS rfl rfl rfl hb (js rfl rfl rfl) rfl fun a w hS => ?_
  exact zn (hK _ _ (hS.up 5 rfl rfl))
 refine zG (v := Value.bool) (x0 := (((decide (MR > (0 : Int))) && (decide (MR ≤ (8 : Int)))) && ((xE .i64 MR (qh (MR - (1 : Int)))) == (0 : Int)))) hS (xD rfl) rfl fun MT a w hz hS => ?_
 have hM := qB hz hM; clear hz
 refine qA <| wp_ret ?_
 exact zD (rs := [2]) hS rfl rfl (hret MT _ (q8 hM) (hS.st.pick [] (by kernel_rfl)))
theorem Z5 {H : xT} {F : List qk} {w : World} {R : Ending → World → Prop} {kr : ((List UInt8) × Int × Int) → Prop} {kp : Value → Prop} (hG : Gl H) (K : Nat) (MS : yd) (MR : Int) (MT : Int)
    (hS : St w H [] F) (hm : (jl.m K MS MR MT).wp kr kp)
    (hret : ∀ (MV : List UInt8) (MU : Int) (M8 : Int) (w : World), kr (MV, MU, M8) → St w H [] F → R (.returned (.tuple ⟨[.agg ⟨[xi MV, .int .i64 MU]⟩, .int .i64 M8]⟩)) w) :
    Calls Tryd.prog 40 ⟨[.agg ⟨[xi MS.text_, .int .i64 MS.base_]⟩, .int .i64 MR, .int .i64 MT]⟩ w R := by
 refine enter Tryd.func40 rfl Tryd.ntmps40 rfl hS fun a w hS => ?_
 have hM := hm; clear hm
 rw [jl.m] at hM
 refine qm <| bx ([xi MS.text_, .int .i64 MS.base_]) hS rfl rfl rfl fun w MY M9 MW hS => QF ([xi ([] : List UInt8), .int .i64 (0 : Int)]) hS Tryd.zeroValue44 rfl rfl fun w M7 Na MX hS => sA hS rfl fun hS => qA <| wp_seq <| qm <| sM hS rfl fun hS => sB hS rfl fun hS => sM hS rfl fun hS => yJ 2 false 10 (b := (decide (MR < (0 : Int)))) (r := (decide (MT < (0 : Int)))) hS rfl rfl rfl rfl rfl rfl rfl (fun hb a w hS K hK => ?_) rfl fun a w hS => ?_
 ·refine zW hS rfl rfl rfl hb (mv rfl) rfl fun a w hS => ?_
  refine zW hS rfl rfl rfl hb (js rfl rfl rfl) rfl fun a w hS => ?_
  exact zn (hK _ _ (hS.up 2 rfl rfl))
 refine qA <| qF hS rfl hM (fun M4 hM => ?_) (fun M4 hM => ?_)
 ·refine wp_seq ?_
  refine zP <| sO hS (Xr ([xi ([] : List UInt8), .int .i64 (0 : Int)]) [(0, 1), (1, 1)] Tryd.zeroValue44 Tryd.runUnderlying44 (by intro w; simp [Tryd.sizeOf3, Tryd.sizeOf9]) rfl rfl) rfl fun hS => QU 0 ([xi ([] : List UInt8), .int .i64 (0 : Int)]) ([xi ([] : List UInt8), .int .i64 (0 : Int)]) hS rfl rfl MX rfl rfl Tryd.sizeOf44 (by simp [Value.oneCell']) (Nat.le_of_ble_eq_true rfl) rfl fun w Nb MZ hS => sA hS rfl fun hS => qA <| wp_ret <| zl ?_
  exact jk (vs := [.agg ⟨[xi ([] : List UInt8), .int .i64 (0 : Int)]⟩, .int .i64 (1 : Int)]) hS rfl (by exact ⟨Kf 0 ([xi ([] : List UInt8), .int .i64 (0 : Int)]) rfl MZ rfl rfl rfl Tryd.isAgg44 Tryd.sizeOf44, Ll rfl, trivial⟩) (hret ([] : List UInt8) (0 : Int) (1 : Int) _ (q8 hM) (hS.st.pick [] (by kernel_rfl)))
 ·refine wp_skip ?_
  refine qe <| wp_seq <| qm <| sM hS rfl fun hS => sO hS (xv rfl Tryd.runUnderlying44 rfl Tryd.sizeOf9 rfl) rfl fun hS => sO hS (x5 1 rfl MW rfl rfl Tryd.isAgg9) rfl fun hS => sO hS (ul rfl Tryd.runUnderlying9) rfl fun hS => sB hS rfl fun hS => sM hS rfl fun hS => yJ 7 false 20 (b := (decide (MR > (MS.text_.length : Int)))) (r := (decide (MT > (qh ((MS.text_.length : Int) - MR))))) hS rfl rfl rfl rfl rfl rfl rfl (fun hb a w hS K hK => ?_) rfl fun a w hS => ?_
  ·refine zW hS rfl rfl rfl hb (mv rfl) rfl fun a w hS => ?_
   refine zW hS rfl rfl rfl hb (xv rfl Tryd.runUnderlying44 rfl Tryd.sizeOf9 rfl) rfl fun a w hS => zW hS rfl rfl rfl hb (x5 1 rfl MW rfl rfl Tryd.isAgg9) rfl fun a w hS => zW hS rfl rfl rfl hb (ul rfl Tryd.runUnderlying9) rfl fun a w hS => zW hS rfl rfl rfl hb (mv rfl) rfl fun a w hS => zW hS rfl rfl rfl hb (js rfl rfl rfl) rfl fun a w hS => zW hS rfl rfl rfl hb (js rfl rfl rfl) rfl fun a w hS => ?_
   exact zn (hK _ _ (hS.up 7 rfl rfl))
  refine qA <| qF hS rfl hM (fun M5 hM => ?_) (fun M5 hM => ?_)
  ·refine wp_seq ?_
   refine zP <| sO hS (Xr ([xi ([] : List UInt8), .int .i64 (0 : Int)]) [(0, 1), (1, 1)] Tryd.zeroValue44 Tryd.runUnderlying44 (by intro w; simp [Tryd.sizeOf3, Tryd.sizeOf9]) rfl rfl) rfl fun hS => QU 0 ([xi ([] : List UInt8), .int .i64 (0 : Int)]) ([xi ([] : List UInt8), .int .i64 (0 : Int)]) hS rfl rfl MX rfl rfl Tryd.sizeOf44 (by simp [Value.oneCell']) (Nat.le_of_ble_eq_true rfl) rfl fun w Nc M0 hS => sA hS rfl fun hS => qA <| wp_ret <| zl ?_
   exact jk (vs := [.agg ⟨[xi ([] : List UInt8), .int .i64 (0 : Int)]⟩, .int .i64 (2 : Int)]) hS rfl (by exact ⟨Kf 0 ([xi ([] : List UInt8), .int .i64 (0 : Int)]) rfl M0 rfl rfl rfl Tryd.isAgg44 Tryd.sizeOf44, Ll rfl, trivial⟩) (hret ([] : List UInt8) (0 : Int) (2 : Int) _ (q8 hM) (hS.st.pick [] (by kernel_rfl)))
  ·refine wp_skip ?_
   refine qe <| wp_seq ?_
   obtain ⟨M6, hM⟩ := qK hM
   refine za (vals := [some (qL MY 0), some (xi MS.text_), some (.int .i64 MR), some (.int .i64 MR), some (.int .i64 MT), some (.int .i64 (qh (MR + MT))), some (xi (sub MS.text_ MR (qh (MR + MT)))), some (qL MY 1), some (.int .i64 MS.base_), some (.int .i64 MR), some (.int .i64 (qh (MS.base_ + MR))), some (.agg ⟨[xi (sub MS.text_ MR (qh (MR + MT))), .int .i64 (qh (MS.base_ + MR))]⟩), none, none]) hS xG rfl ?_
   intro l w ho hcl hA hst
   refine jg hA hst ho hcl xx xH 12 [0, 1, 2, 3, 4, 5, 6, 7, 8, 9, 10, 11] rfl rfl rfl rfl rfl (by exact ⟨nQ rfl (by exact qW (xv rfl Tryd.runUnderlying44 rfl Tryd.sizeOf9 rfl) rfl), nQ rfl (by exact qW (x5 1 rfl MW rfl rfl Tryd.isAgg9) rfl), nM rfl, nM rfl, nM rfl, nB rfl, nQ rfl (by exact qW (Lf rfl Tryd.runUnderlying9 (G2 rfl) (DK rfl) M6) rfl), nQ rfl (by exact qW (xv rfl Tryd.runUnderlying44 rfl Tryd.sizeOf3 rfl) rfl), nQ rfl (by exact qW (x5 1 rfl MW rfl rfl Tryd.isAgg3) rfl), nM rfl, nB rfl, nQ rfl (by exact qW (Xr ([xi (sub MS.text_ MR (qh (MR + MT))), .int .i64 (qh (MS.base_ + MR))]) [(0, 1), (1, 1)] Tryd.zeroValue44 Tryd.runUnderlying44 (by intro w; simp [Tryd.sizeOf3, Tryd.sizeOf9]) rfl rfl) rfl), trivial⟩) fun D l a w ho hcl hav hpre hm hE hk hA hst => ?_
   have hS := (Ss.mk hE hst).env2 (e' := [(6, qL M7 0), (41, .agg ⟨[xi (sub MS.text_ MR (qh (MR + MT))), .int .i64 (qh (MS.base_ + MR))]⟩)]) ⟨rfl, rfl, trivial⟩
   refine qQ rfl <| QU 0 ([xi (sub MS.text_ MR (qh (MR + MT))), .int .i64 (qh (MS.base_ + MR))]) ([xi (sub MS.text_ MR (qh (MR + MT))), .int .i64 (qh (MS.base_ + MR))]) hS rfl rfl MX rfl rfl Tryd.sizeOf44 (by simp [Value.oneCell']) (Nat.le_of_ble_eq_true rfl) rfl fun w Nd M3 hS => qA ?_
   replace hst := hS.st
   obtain ⟨hcl, hmust, hav2, hA⟩ := XQ (vals' := [some (qL MY 0), some (xi MS.text_), some (.int .i64 MR), some (.int .i64 MR), some (.int .i64 MT), some (.int .i64 (qh (MR + MT))), some (xi (sub MS.text_ MR (qh (MR + MT)))), some (qL MY 1), some (.int .i64 MS.base_), some (.int .i64 MR), some (.int .i64 (qh (MS.base_ + MR))), some (.agg ⟨[xi (sub MS.text_ MR (qh (MR + MT))), .int .i64 (qh (MS.base_ + MR))]⟩), some undef, some (.int .i64 (0 : Int))]) 12 [(0, 12), (1, 12), (2, 12), (3, 12), (4, 12), (5, 12), (6, 12), (7, 12), (8, 12), (9, 12), (10, 12), (11, 12)] hA hcl hav hm hpre rfl rfl rfl rfl rfl
   clear hm hav
   refine ym hA hst ho hcl hmust [13] rfl rfl rfl (by exact ⟨nA rfl, trivial⟩) fun a w hS => ?_
   replace hS := hS.env2 (e' := [(6, qL M7 0), (7, .int .i64 (0 : Int))]) ⟨rfl, rfl, trivial⟩
   refine qe <| wp_ret ?_
   exact jk (vs := [.agg ⟨[xi (sub MS.text_ MR (qh (MR + MT))), .int .i64 (qh (MS.base_ + MR))]⟩, .int .i64 (0 : Int)]) hS rfl (by exact ⟨Kf 0 ([xi (sub MS.text_ MR (qh (MR + MT))), .int .i64 (qh (MS.base_ + MR))]) rfl M3 rfl rfl rfl Tryd.isAgg44 Tryd.sizeOf44, Ll rfl, trivial⟩) (hret (sub MS.text_ MR (qh (MR + MT))) (qh (MS.base_ + MR)) (0 : Int) _ (q8 hM) (hS.st.pick [] (by kernel_rfl)))
theorem uH {H : xT} {F : List qk} {w : World} {R : Ending → World → Prop} {kr : Unit → Prop} {kp : Value → Prop} (hG : Gl H) (K : Nat) (MR : Int)
    (hS : St w H [] F) (hm : (yX.m K MR).wp kr kp)
    (hret : ∀ (MT : Nat) (MU : qk) (w : World), kr () → (xM MU MT ([.int .i64 MR]) 3) → St w H [MU] F → R (.returned (jE 45 [] [qL MT 0])) w) :
    Calls Tryd.prog 24 ⟨[.int .i64 MR, .bool true]⟩ w R := by
 refine enter Tryd.func24 rfl Tryd.ntmps24 rfl hS fun a w hS => ?_
 have hM := hm; clear hm
 rw [yX.m] at hM
 refine qm <| bx ([.int .i64 MR]) hS rfl rfl rfl fun w MV MW MS hS => sA hS rfl fun hS => qA <| wp_seq <| qm <| sM hS rfl fun hS => qA <| Ki hS rfl <| qm <| sO hS (Me rfl rfl) rfl fun hS => sA hS rfl fun hS => qA <| wp_ret <| zl ?_
 exact zD (rs := [4]) hS rfl rfl (hret MV MW _ (q8 hM) MS (hS.st.pick [0] (by kernel_rfl)))
theorem v4 {H : xT} {F : List qk} {w : World} {R : Ending → World → Prop} {kr : Int → Prop} {kp : Value → Prop} (hG : Gl H) (K : Nat) (MR : Int) (MS : Int) (MV : Nat) (MT : qk) (MU : xM MT MV ([.int .i64 MS]) 3)
    (hS : St w H [MT] F) (hm : (yc.m K MR MS).wp kr kp)
    (hret : ∀ (MW : Int) (w : World), kr MW → St w H [MT] F → R (.returned (.int .i64 MW)) w) :
    Calls Tryd.prog 45 ⟨[.int .i64 MR, qL MV 0]⟩ w R := by
 refine enter Tryd.func45 rfl Tryd.ntmps45 rfl hS fun a w hS => ?_
 have hM := hm; clear hm
 rw [yc.m] at hM
 refine qm <| sA hS rfl fun hS => qA <| qm <| sO hS (x5 0 rfl MU rfl rfl Tryd.isAgg3) rfl fun hS => sB hS rfl fun hS => sM hS rfl fun hS => sB hS rfl fun hS => zG (v := Value.int .i64) (x0 := (qh ((qh (MS - (1 : Int))) - MR))) hS (xD rfl) rfl fun MX a w hz hS => ?_
 have hM := qB hz hM; clear hz
 refine qA <| wp_ret ?_
 exact zD (rs := [3]) hS rfl rfl (hret MX _ (q8 hM) (hS.st.pick [0] (by kernel_rfl)))
theorem jS {H : xT} {F : List qk} {w : World} {R : Ending → World → Prop} {kr : (Int × Int) → Prop} {kp : Value → Prop} (hG : Gl H) (K : Nat) (MU : yd) (MW : Int) (MR : Int)
    (hS : St w H [] F) (hm : (zR.m K MU MW MR).wp kr kp)
    (hret : ∀ (Nj : Int) (Nk : Int) (w : World), kr (Nj, Nk) → St w H [] F → R (.returned (.tuple ⟨[.int .u64 Nj, .int .i64 Nk]⟩)) w) :
    Calls Tryd.prog 19 ⟨[.agg ⟨[xi MU.text_, .int .i64 MU.base_]⟩, .int .i64 MW, .int .i64 MR, .bool true]⟩ w R := by
 refine enter Tryd.func19 rfl Tryd.ntmps19 rfl hS fun a w hS => ?_
 have hM := hm; clear hm
 rw [zR.m] at hM
 refine qm <| bx ([xi MU.text_, .int .i64 MU.base_]) hS rfl rfl rfl fun w No M7 M9 hS => sA hS rfl fun hS => sA hS rfl fun hS => qA <| wp_seq <| qm <| sM hS rfl fun hS => qJ hS rfl Tryd.call22 (QY hG K MR (hS.st.part 0 [0] (by kernel_rfl)) (qt hM) (fun Nq w hM  hst => qz hS.ev hst.appF rfl fun hS => ?_))
 replace hS : Ss _ _ _ H [M7] F _ _ := hS
 refine sO hS (un rfl rfl) rfl fun hS => qA <| qF hS rfl hM (fun Nc hM => ?_) (fun Nc hM => ?_)
 ·refine wp_seq ?_
  refine zP <| sA hS rfl fun hS => sA hS rfl fun hS => qA <| wp_ret <| zl ?_
  exact zD (rs := [8, 9]) hS rfl rfl (hret (0 : Int) (1 : Int) _ (q8 hM) (hS.st.pick [] (by kernel_rfl)))
 ·refine wp_skip ?_
  refine qe <| qm <| sO hS (uS 0 rfl M9 rfl ([xi MU.text_, .int .i64 MU.base_]) rfl rfl Tryd.isAgg44 Tryd.sizeOf44) rfl fun hS => sO hS (Me rfl rfl) rfl fun hS => sA hS rfl fun hS => qA <| qm <| sM hS rfl fun hS => sM hS rfl fun hS => sM hS rfl fun hS => ve hS rfl rfl Tryd.call40 (Z5 hG K MU MW MR (hS.st.part 0 [0] (by kernel_rfl)) (qt hM) (fun MS MX Nm w hM  hst => qz hS.ev hst.appF rfl fun hS => ?_))
  replace hS : Ss _ _ _ H [M7] F _ _ := hS
  refine sM hS rfl fun hS => sO hS (ex rfl rfl) rfl fun hS => sO hS (ex rfl rfl) rfl fun hS => QF ([xi ([] : List UInt8), .int .i64 (0 : Int)]) hS Tryd.zeroValue44 rfl rfl fun w M5 Np Na hS => QU 0 ([xi MS, .int .i64 MX]) ([xi MS, .int .i64 MX]) hS rfl rfl Na rfl rfl Tryd.sizeOf44 (by simp [Value.oneCell']) (Nat.le_of_ble_eq_true rfl) rfl fun w M8 M3 hS => sA hS rfl fun hS => qA <| wp_seq <| qm <| sM hS rfl fun hS => sB hS rfl fun hS => qA <| qF hS rfl hM (fun Nd hM => ?_) (fun Nd hM => ?_)
  ·refine wp_seq ?_
   refine zP <| sM hS rfl fun hS => sA hS rfl fun hS => sA hS rfl fun hS => qA <| wp_ret <| zl ?_
   exact zD (rs := [8, 9]) hS rfl rfl (hret (0 : Int) Nm _ (q8 hM) (hS.st.pick [] (by kernel_rfl)))
  ·refine wp_skip ?_
   refine qe <| qm <| sM hS rfl fun hS => sM hS rfl fun hS => qJ hS rfl Tryd.call24 (uH hG K MR (hS.st.part 0 [0, 1] (by kernel_rfl)) (qt hM) (fun MZ M6 w hM Nl hst => qz hS.ev hst.appF rfl fun hS => ?_))
   replace hS : Ss _ _ _ H [M6, M8, M7] F _ _ := hS
   refine sA hS rfl fun hS => qA <| qm <| sA hS rfl fun hS => qA <| wp_seq <| qm <| sM hS rfl fun hS => sM hS rfl fun hS => qA <| xS <| zv (fun Ni a w => ∃ (MT : Int) (MV : Int), Ss 52 [] [(11, qL M5 0), (13, jE 45 [] [qL MZ 0]), (14, .int .u64 MT), (34, .int .i64 MR), (35, .int .i64 MV)] H [M8, M6] F a w ∧ (zR.l1 K MR MS Ni MT MV).wp kr kp) K ?_ ?_ ?_
   ·exact ⟨(0 : Int), (0 : Int), hS.to [1, 0] (by kernel_rfl) ⟨rfl, rfl, rfl, rfl, rfl, trivial⟩, hM⟩
   ·intro a w hI; obtain ⟨_, _, _, hM⟩ := hI; exact zt hM
   ·intro Ni a w hI Nn Nb
    obtain ⟨MT, MV, hS, hM⟩ := hI
    rw [zR.l1] at hM
    refine qm <| sB hS rfl fun hS => qA <| wp_seq <| qF hS rfl hM (fun Nf hM => ?_) (fun Nf hM => ?_)
    ·refine wp_skip ?_
     refine qe <| wp_seq <| xS <| qm <| sM hS rfl fun hS => sA hS rfl fun hS => qA <| za (vals := [some (.int .u64 MT), some (qL M5 0), some (xi MS), some (jE 45 [] [qL MZ 0]), some (.int .i64 MV), none, none, none, some (.int .i64 MV), some (.int .i64 (qh ((8 : Int) * MV))), none, none, none]) hS xG rfl ?_
     intro l w ho hcl hA hst
     refine jg hA hst ho hcl xx xH 5 [0, 1, 2, 3, 4, 8, 9] rfl rfl rfl rfl rfl (by exact ⟨nM rfl, nQ rfl (by exact qW (xv rfl Tryd.runUnderlying44 rfl Tryd.sizeOf9 rfl) rfl), nQ rfl (by exact qW (x5 0 rfl M3 rfl rfl Tryd.isAgg9) rfl), nM rfl, nM rfl, nM rfl, nB rfl, trivial⟩) fun D l a w ho hcl hav hpre hm hE hk hA hst => ?_
     have hS := (Ss.mk hE hst).env2 (e' := [(41, jE 45 [] [qL MZ 0]), (42, .int .i64 MV)]) ⟨rfl, rfl, trivial⟩
     refine qQ rfl <| ve hS rfl rfl Tryd.call45 (v4 hG K MV MR MZ M6 Nl (hS.st.part 1 [1, 0] (by kernel_rfl)) (qt hM) (fun M0 w hM  hst => qz hS.ev hst.appF rfl fun hS => ?_))
     replace hS : Ss _ _ _ H [M6, M8] F _ _ := hS
     refine qA ?_
     replace hst := hS.st
     obtain ⟨Ng, hM⟩ := qK hM
     obtain ⟨Nh, hM⟩ := qK hM
     obtain ⟨MY, M4⟩ : ∃ x, x = (QP .u64 MT (z7 .u64 (wr .u64 ((rd MS M0).toNat : Int)) (qh ((8 : Int) * MV)))) := ⟨_, rfl⟩
     replace hM := qB M4 hM
     obtain ⟨hcl, hmust, hav2, hA⟩ := dn (vals' := [some (.int .u64 MT), some (qL M5 0), some (xi MS), some (jE 45 [] [qL MZ 0]), some (.int .i64 MV), some (.int .i64 M0), some (.int .u8 ((rd MS M0).toNat : Int)), some (.int .u64 (wr .u64 ((rd MS M0).toNat : Int))), some (.int .i64 MV), some (.int .i64 (qh ((8 : Int) * MV))), some (.int .u64 (z7 .u64 (wr .u64 ((rd MS M0).toNat : Int)) (qh ((8 : Int) * MV)))), some (.int .u64 (QP .u64 MT (z7 .u64 (wr .u64 ((rd MS M0).toNat : Int)) (qh ((8 : Int) * MV))))), some (.int .u64 MY)]) 5 [(3, 5), (4, 5)] hA hcl hav hm hpre hk rfl rfl rfl rfl rfl rfl rfl
     clear hm hav
     refine ym hA hst ho hcl hmust [0, 1, 2, 6, 7, 8, 9, 10, 11, 12] rfl rfl rfl (by exact ⟨nM rfl, nQ rfl (by exact qW (xv rfl Tryd.runUnderlying44 rfl Tryd.sizeOf9 rfl) rfl), nQ rfl (by exact qW (x5 1 rfl M3 rfl rfl Tryd.isAgg9) rfl), nQ rfl (by exact qW (U2 rfl rfl Tryd.runUnderlying9 Ng) rfl), nQ rfl (by exact qW (u7 rfl Tryd.runUnderlying5 Tryd.runUnderlying36) rfl), nM rfl, nB rfl, nQ rfl (by exact qW (shl rfl rfl Nh) rfl), nB rfl, nQ rfl (by exact qW (xD rfl) (congrArg (Value.int .u64) M4.symm)), trivial⟩) fun a w hS => ?_
     replace hS := hS.env2 (e' := [(11, qL M5 0), (13, jE 45 [] [qL MZ 0]), (14, .int .u64 MY), (34, .int .i64 MR), (35, .int .i64 MV)]) ⟨rfl, rfl, rfl, rfl, rfl, trivial⟩
     refine zy (qe ?_)
     refine zP <| sB hS rfl fun hS => sM hS rfl fun hS => zn <| qe ?_
     exact Nb _ _ ⟨MY, (qh (MV + (1 : Int))), hS.to [1, 0] (by kernel_rfl) ⟨rfl, rfl, rfl, rfl, rfl, trivial⟩, hM⟩
    ·refine wp_exit ?_
     refine qE (qE (zd (qe ?_)))
     refine qm <| sM hS rfl fun hS => sA hS rfl fun hS => sA hS rfl fun hS => qA <| wp_ret ?_
     exact zD (rs := [8, 9]) hS rfl rfl (hret MT (0 : Int) _ (q8 hM) (hS.st.pick [] (by kernel_rfl)))
theorem Ub {H : xT} {F : List qk} {w : World} {R : Ending → World → Prop} {kr : Unit → Prop} {kp : Value → Prop} (hG : Gl H) (K : Nat) (MR : List UInt8)
    (hS : St w H [] F) (hm : (Zb.m K MR).wp kr kp)
    (hret : ∀ (MS : Nat) (MT : qk) (w : World), kr () → (xM MT MS ([.int .i64 (0 : Int), xi MR]) 118) → St w H [MT] F → R (.returned (qL MS 0)) w) :
    Calls Tryd.prog 42 ⟨[xi MR]⟩ w R := by
 refine enter Tryd.func42 rfl Tryd.ntmps42 rfl hS fun a w hS => ?_
 have hM := hm; clear hm
 rw [Zb.m] at hM
 refine qm <| sA hS rfl fun hS => qA <| qm <| sM hS rfl fun hS => sO hS (Xr ([.int .i64 (0 : Int), xi MR]) [(0, 1), (1, 1)] Tryd.zeroValue118 Tryd.runUnderlying118 (by intro w; simp [Tryd.sizeOf63, Tryd.sizeOf9]) rfl rfl) rfl fun hS => bx ([.int .i64 (0 : Int), xi MR]) hS rfl rfl rfl fun w MV MW MU hS => sA hS rfl fun hS => qA <| wp_ret ?_
 exact zD (rs := [2]) hS rfl rfl (hret MV MW _ (q8 hM) MU (hS.st.pick [0] (by kernel_rfl)))
theorem vH {H : xT} {F : List qk} {w : World} {R : Ending → World → Prop} {kr : (Int × Int × Int) → Prop} {kp : Value → Prop} (hG : Gl H) (K : Nat) (MS : qG) (MR : Int) (MU : Nat) (MW : qk) (MT : xM MW MU ([.int .i64 MS.place_.at_, xi MS.text_]) 118)
    (hS : St w H [MW] F) (hm : (zH.m K MS MR).wp kr kp)
    (hret : ∀ (Ni : Int) (Nj : Int) (MY : Int) (M4 : qk) (w : World), kr (Ni, Nj, MY) → (xM M4 MU ([.int .i64 MY, xi MS.text_]) 118) → St w H [M4] F → R (.returned (.tuple ⟨[.int .u32 Ni, .int .i64 Nj]⟩)) w) :
    Calls Tryd.prog 78 ⟨[qL MU 0, .int .i64 MR]⟩ w R := by
 refine enter Tryd.func78 rfl Tryd.ntmps78 rfl hS fun a w hS => ?_
 have hM := hm; clear hm
 rw [zH.m] at hM
 refine qm <| sA hS rfl fun hS => sA hS rfl fun hS => qA <| wp_seq <| xS <| qm <| sM hS rfl fun hS => sO hS (XR rfl rfl Tryd.runUnderlying94) rfl fun hS => sM hS rfl fun hS => zW hS rfl rfl rfl rfl (mv rfl) rfl fun a w hS => zW hS rfl rfl rfl rfl (js rfl rfl rfl) rfl fun a w hS => sO hS (pk rfl rfl rfl) rfl fun hS => sM hS rfl fun hS => yJ 2 false 16 (b := (decide (MR < (0 : Int)))) (r := (decide (MR > (32 : Int)))) hS rfl rfl rfl rfl rfl rfl rfl (fun hb a w hS K hK => ?_) rfl fun a w hS => ?_
 ·refine zW hS rfl rfl rfl hb (mv rfl) rfl fun a w hS => ?_
  refine zW hS rfl rfl rfl hb (js rfl rfl rfl) rfl fun a w hS => ?_
  exact zn (hK _ _ (hS.up 2 rfl rfl))
 refine zG (v := Value.bool) (x0 := ((decide (MR < (0 : Int))) || (decide (MR > (32 : Int))))) hS (xD rfl) rfl fun Nr a w hz hS => ?_
 have hM := qB hz hM; clear hz
 refine qA <| qF hS rfl hM (fun M8 hM => ?_) (fun M8 hM => ?_)
 ·refine wp_seq ?_
  refine zP <| sA hS rfl fun hS => sA hS rfl fun hS => qA <| wp_ret <| x6 (zl ?_)
  exact zD (rs := [4, 5]) hS rfl rfl (hret (0 : Int) (1 : Int) MS.place_.at_ MW _ (q8 hM) MT (hS.st.pick [0] (by kernel_rfl)))
 ·refine wp_seq ?_
  obtain ⟨Nh, M3⟩ : ∃ x, x = (decide (MR > (qh ((qh ((8 : Int) * (MS.text_.length : Int))) - MS.place_.at_)))) := ⟨_, rfl⟩
  replace hM := qB M3 hM
  refine za (vals := [some (.int .i64 MR), some (qL MU 0), some (qL MU 0), some (qL MU 1), some (xi MS.text_), some (.int .i64 (MS.text_.length : Int)), some (.int .i64 (qh ((8 : Int) * (MS.text_.length : Int)))), some (qL MU 0), some (qL MU 0), some (qL MU 0), some (qL MU 0), some (.int .i64 MS.place_.at_), some (.int .i64 (qh ((qh ((8 : Int) * (MS.text_.length : Int))) - MS.place_.at_))), some (.bool (decide (MR > (qh ((qh ((8 : Int) * (MS.text_.length : Int))) - MS.place_.at_))))), some (.bool Nh)]) hS xG rfl ?_
  intro l w ho hcl hA hst
  refine ym hA hst ho hcl xH [0, 1, 2, 3, 4, 5, 6, 7, 8, 9, 10, 11, 12, 13, 14] rfl rfl rfl (by exact ⟨nM rfl, nM rfl, nQ rfl (by exact qW (yy rfl) rfl), nQ rfl (by exact qW (xv rfl Tryd.runUnderlying118 rfl Tryd.sizeOf9 rfl) rfl), nQ rfl (by exact qW (x5 0 rfl MT rfl rfl Tryd.isAgg9) rfl), nQ rfl (by exact qW (ul rfl Tryd.runUnderlying9) rfl), nB rfl, nM rfl, nQ rfl (by exact qW (yy rfl) rfl), nQ rfl (by exact qW (xv rfl Tryd.runUnderlying118 rfl Tryd.sizeOf63 rfl) rfl), nQ rfl (by exact qW (xv rfl Tryd.runUnderlying63 rfl Tryd.sizeOf3 rfl) rfl), nQ rfl (by exact qW (x5 0 rfl MT rfl rfl Tryd.isAgg3) rfl), nB rfl, nB rfl, nQ rfl (by exact qW (xD rfl) (congrArg (Value.bool) M3.symm)), trivial⟩) fun a w hS => ?_
  replace hS := hS.env2 (e' := [(0, qL MU 0), (1, .int .i64 MR), (20, .bool Nh)]) ⟨rfl, rfl, rfl, trivial⟩
  refine qe <| qF hS rfl hM (fun M9 hM => ?_) (fun M9 hM => ?_)
  ·refine wp_seq ?_
   refine zP <| sA hS rfl fun hS => sA hS rfl fun hS => qA <| wp_ret <| x6 (zl ?_)
   exact zD (rs := [4, 5]) hS rfl rfl (hret (0 : Int) (2 : Int) MS.place_.at_ MW _ (q8 hM) MT (hS.st.pick [0] (by kernel_rfl)))
  ·refine wp_skip ?_
   refine zy (qe ?_)
   refine qm <| sA hS rfl fun hS => qA <| qm <| sM hS rfl fun hS => sO hS (yy rfl) rfl fun hS => sO hS (xv rfl Tryd.runUnderlying118 rfl Tryd.sizeOf63 rfl) rfl fun hS => sO hS (xv rfl Tryd.runUnderlying63 rfl Tryd.sizeOf3 rfl) rfl fun hS => sO hS (x5 0 rfl MT rfl rfl Tryd.isAgg3) rfl fun hS => sO hS (quo rfl rfl rfl) rfl fun hS => zG (v := Value.int .i64) (x0 := (yR .i64 MS.place_.at_ (8 : Int))) hS (xD rfl) rfl fun MV a w hz hS => ?_
   have hM := qB hz hM; clear hz
   refine qA <| zm (fun a w => ∃ (M0 : Int), Ss 93 [] [(0, qL MU 0), (1, .int .i64 MR), (6, .int .u64 M0)] H [MW] F a w ∧ (zH.j2 K MS MR M0).wp kr kp) (fun Nq M7 => ?_) ?_
   ·refine wp_seq ?_
    refine zP <| sA hS rfl fun hS => qA <| xS <| zv (fun Ng a w => ∃ (MZ : Int) (MX : Int), Ss 93 [] [(0, qL MU 0), (1, .int .i64 MR), (6, .int .u64 MZ), (7, .int .i64 MV), (8, .int .i64 MX)] H [MW] F a w ∧ (zH.l1 K MS MR MV Ng MZ MX).wp kr kp) K ?_ ?_ ?_
    ·exact ⟨(0 : Int), (0 : Int), hS.to [0] (by kernel_rfl) ⟨rfl, rfl, rfl, rfl, rfl, trivial⟩, hM⟩
    ·intro a w hI; obtain ⟨_, _, _, hM⟩ := hI; exact zt hM
    ·intro Ng a w hI Np M6
     obtain ⟨MZ, MX, hS, hM⟩ := hI
     rw [zH.l1] at hM
     refine wp_seq <| qm <| sM hS rfl fun hS => sM hS rfl fun hS => sB hS rfl fun hS => sB hS rfl fun hS => sM hS rfl fun hS => sO hS (yy rfl) rfl fun hS => sO hS (xv rfl Tryd.runUnderlying118 rfl Tryd.sizeOf63 rfl) rfl fun hS => sO hS (xv rfl Tryd.runUnderlying63 rfl Tryd.sizeOf3 rfl) rfl fun hS => sO hS (x5 0 rfl MT rfl rfl Tryd.isAgg3) rfl fun hS => sM hS rfl fun hS => sB hS rfl fun hS => sB hS rfl fun hS => qA <| qF hS rfl hM (fun Na hM => ?_) (fun Na hM => ?_)
     ·refine wp_skip ?_
      refine qe <| wp_seq <| xS <| zP <| sM hS rfl fun hS => sM hS rfl fun hS => sO hS (yy rfl) rfl fun hS => sO hS (xv rfl Tryd.runUnderlying118 rfl Tryd.sizeOf9 rfl) rfl fun hS => sO hS (x5 0 rfl MT rfl rfl Tryd.isAgg9) rfl fun hS => sM hS rfl fun hS => sM hS rfl fun hS => sB hS rfl fun hS => ?_
      obtain ⟨Nb, hM⟩ := qK hM
      refine sO hS (U2 rfl rfl Tryd.runUnderlying9 Nb) rfl fun hS => sO hS (u7 rfl Tryd.runUnderlying5 Tryd.runUnderlying36) rfl fun hS => sM hS rfl fun hS => sB hS rfl fun hS => ?_
      obtain ⟨Nc, hM⟩ := qK hM
      refine sO hS (shl rfl rfl Nc) rfl fun hS => sB hS rfl fun hS => zG (v := Value.int .u64) (x0 := (QP .u64 MZ (z7 .u64 (wr .u64 ((rd MS.text_ (qh (MV + MX))).toNat : Int)) (qh ((8 : Int) * MX))))) hS (xD rfl) rfl fun Nm a w hz hS => ?_
      have hM := qB hz hM; clear hz
      refine zn <| zy (qe ?_)
      refine zP <| sM hS rfl fun hS => sB hS rfl fun hS => zG (v := Value.int .i64) (x0 := (qh (MX + (1 : Int)))) hS (xD rfl) rfl fun Nl a w hz hS => ?_
      have hM := qB hz hM; clear hz
      refine zn <| qe ?_
      exact M6 _ _ ⟨Nm, Nl, hS.to [0] (by kernel_rfl) ⟨rfl, rfl, rfl, rfl, rfl, trivial⟩, hM⟩
     ·refine wp_exit ?_
      refine qE (qE (zd (qe ?_)))
      exact M7 _ _ ⟨MZ, hS.to [0] (by kernel_rfl) ⟨rfl, rfl, rfl, trivial⟩, hM⟩
   ·intro a w hI
    obtain ⟨M0, hS, hM⟩ := hI
    rw [zH.j2] at hM
    refine qm <| sM hS rfl fun hS => sM hS rfl fun hS => sO hS (yy rfl) rfl fun hS => sO hS (xv rfl Tryd.runUnderlying118 rfl Tryd.sizeOf63 rfl) rfl fun hS => sO hS (xv rfl Tryd.runUnderlying63 rfl Tryd.sizeOf3 rfl) rfl fun hS => sO hS (x5 0 rfl MT rfl rfl Tryd.isAgg3) rfl fun hS => sB hS rfl fun hS => ?_
    obtain ⟨Nd, hM⟩ := qK hM
    refine sO hS (shr rfl rfl Nd) rfl fun hS => zG (v := Value.int .u64) (x0 := (xa .u64 M0 (xE .i64 MS.place_.at_ (7 : Int)))) hS (xD rfl) rfl fun Nn a w hz hS => ?_
    have hM := qB hz hM; clear hz
    refine qA <| qm <| sM hS rfl fun hS => sO hS (yy rfl) rfl fun hS => sO hS (xv rfl Tryd.runUnderlying118 rfl Tryd.sizeOf63 rfl) rfl fun hS => sO hS (xv rfl Tryd.runUnderlying63 rfl Tryd.sizeOf3 rfl) rfl fun hS => sO hS (x5 0 rfl MT rfl rfl Tryd.isAgg3) rfl fun hS => sM hS rfl fun hS => sB hS rfl fun hS => sO hS (yy rfl) rfl fun hS => sO hS (xv rfl Tryd.runUnderlying118 rfl Tryd.sizeOf63 rfl) rfl fun hS => sO hS (xv rfl Tryd.runUnderlying63 rfl Tryd.sizeOf3 rfl) rfl fun hS => J5 0 ([.int .i64 (qh (MS.place_.at_ + MR)), xi MS.text_]) hS rfl rfl MT rfl rfl rfl rfl Tryd.sizeOf3 fun w Nk M5 hS => qA <| qm <| sM hS rfl fun hS => sM hS rfl fun hS => ?_
    obtain ⟨Nf, hM⟩ := qK hM
    refine sO hS (shl rfl rfl Nf) rfl fun hS => sB hS rfl fun hS => sB hS rfl fun hS => sO hS (u7 rfl Tryd.runUnderlying36 Tryd.runUnderlying25) rfl fun hS => zG (v := Value.int .u32) (x0 := (wr .u32 (xE .u64 Nn (wr .u64 ((z7 .u64 (1 : Int) MR) - (1 : Int)))))) hS (xD rfl) rfl fun No a w hz hS => ?_
    have hM := qB hz hM; clear hz
    refine sA hS rfl fun hS => qA <| wp_ret ?_
    exact zD (rs := [4, 5]) hS rfl rfl (hret No (0 : Int) (qh (MS.place_.at_ + MR)) Nk _ (q8 hM) M5 (hS.st.pick [0] (by kernel_rfl)))
theorem jN {H : xT} {F : List qk} {w : World} {R : Ending → World → Prop} {kr : Unit → Prop} {kp : Value → Prop} (hG : Gl H) (K : Nat) (MR : Int)
    (hS : St w H [] F) (hm : (yu.m K MR).wp kr kp)
    (hret : ∀ (w : World), kr () → St w H [] F → R (.returned (.tuple ⟨[]⟩)) w)
    (hpan : ∀ v w, kp v → St w H [] F → R (.panicked [⟨v, false, false⟩]) w) :
    Calls Tryd.prog 79 ⟨[.int .i64 MR]⟩ w R := by
 refine enter Tryd.func79 rfl Tryd.ntmps79 rfl hS fun a w hS => ?_
 have hM := hm; clear hm
 rw [yu.m] at hM
 refine qm <| sM hS rfl fun hS => sB hS rfl fun hS => qA <| qF hS rfl hM (fun MS hM => ?_) (fun MS hM => ?_)
 ·refine zP ?_
  refine sM hS rfl fun hS => sO hS (Xr ([.int .i64 MR]) [(0, 1)] Tryd.zeroValue92 Tryd.runUnderlying92 (by intro w; simp [Tryd.sizeOf28]) rfl rfl) rfl fun hS => sO hS (Lk rfl Tryd.runUnderlying92 rfl) rfl fun hS => QL hS rfl ?_
  exact ⟨hS.ev.defs, hpan _ _ (Z6 hM) hS.st.frame⟩
 ·refine wp_skip ?_
  exact jR (rs := []) hS rfl rfl (hret _ (q8 hM) (hS.st.pick [] (by kernel_rfl)))
theorem z4 {H : xT} {F : List qk} {w : World} {R : Ending → World → Prop} {kr : (Int × Int) → Prop} {kp : Value → Prop} (hG : Gl H) (K : Nat) (MR : qx) (MV : Int) (M3 : Nat) (MT : qk) (MW : Nat) (MY : qk) (M0 : Option Addr) (M4 : Nat) (MU : qk) (M6 : xM MT M3 ([qL MW 0, .slice M0 MR.out_.length M4, .int .i64 MR.limit_]) 97) (M7 : xM MY MW ([.int .i64 MR.Reader_.place_.at_, xi MR.Reader_.text_]) 118) (Nd : xj 5 (ci .u8) 1 M0 MR.out_ M4 MU)
    (hS : St w H [MT, MY, MU] F) (hm : (zM.m K MR MV).wp kr kp)
    (hret : ∀ (M8 : Int) (MS : Int) (M5 : qk) (w : World), kr (M8, MS) → (xM M5 MW ([.int .i64 MS, xi MR.Reader_.text_]) 118) → St w H [MT, M5, MU] F → R (.returned (.int .i64 M8)) w)
    (hpan : ∀ v w, kp v → St w H [] F → R (.panicked [⟨v, false, false⟩]) w) :
    Calls Tryd.prog 60 ⟨[qL M3 0, .int .i64 MV]⟩ w R := by
 refine enter Tryd.func60 rfl Tryd.ntmps60 rfl hS fun a w hS => ?_
 have hM := hm; clear hm
 rw [zM.m] at hM
 refine qm <| sA hS rfl fun hS => qA <| qm <| sM hS rfl fun hS => sO hS (yy rfl) rfl fun hS => sO hS (xv rfl Tryd.runUnderlying97 rfl Tryd.sizeOf94 rfl) rfl fun hS => sO hS (x5 0 rfl M6 rfl rfl Tryd.isAgg94) rfl fun hS => sM hS rfl fun hS => qJ hS rfl Tryd.call78 (vH hG K MR.Reader_ MV MW MY M7 (hS.st.part 1 [1, 0, 2] (by kernel_rfl)) (qt hM) (fun Nb Nc MX MZ w hM M9 hst => qz hS.ev hst.appF rfl fun hS => ?_))
 replace hS : Ss _ _ _ H [MZ, MT, MU] F _ _ := hS
 refine sM hS rfl fun hS => sO hS (ex rfl rfl) rfl fun hS => sO hS (ex rfl rfl) rfl fun hS => sA hS rfl fun hS => sA hS rfl fun hS => qA <| qm <| sM hS rfl fun hS => qJ hS rfl Tryd.call79 (jN hG K Nc (hS.st.part 0 [0, 1, 2] (by kernel_rfl)) (qt hM) (fun  w hM  hst => qz hS.ev hst.appF rfl fun hS => ?_) (fun v w hk hst => xo (qD (⟨hS.ev.defs, hpan _ _ hk hst.appF.frame⟩))))
 replace hS : Ss _ _ _ H [MZ, MT, MU] F _ _ := hS
 refine qA <| qm <| sM hS rfl fun hS => sO hS (u7 rfl Tryd.runUnderlying25 Tryd.runUnderlying3) rfl fun hS => zG (v := Value.int .i64) (x0 := (wr .i64 Nb)) hS (xD rfl) rfl fun Na a w hz hS => ?_
 have hM := qB hz hM; clear hz
 refine qA <| wp_ret ?_
 exact zD (rs := [4]) hS rfl rfl (hret Na MX MZ _ (q8 hM) M9 (hS.st.pick [1, 0, 2] (by kernel_rfl)))
theorem jW {H : xT} {F : List qk} {w : World} {R : Ending → World → Prop} {kr : Int → Prop} {kp : Value → Prop} (hG : Gl H) (K : Nat) (MR : qG) (MU : Nat) (MV : qk) (MT : xM MV MU ([.int .i64 MR.place_.at_, xi MR.text_]) 118)
    (hS : St w H [MV] F) (hm : (xW.m K MR).wp kr kp)
    (hret : ∀ (MS : Int) (MW : qk) (w : World), kr MS → (xM MW MU ([.int .i64 MS, xi MR.text_]) 118) → St w H [MW] F → R (.returned (.tuple ⟨[]⟩)) w) :
    Calls Tryd.prog 89 ⟨[qL MU 0]⟩ w R := by
 refine enter Tryd.func89 rfl Tryd.ntmps89 rfl hS fun a w hS => ?_
 have hM := hm; clear hm
 rw [xW.m] at hM
 refine zP <| sM hS rfl fun hS => sM hS rfl fun hS => sO hS (yy rfl) rfl fun hS => sO hS (xv rfl Tryd.runUnderlying63 rfl Tryd.sizeOf3 rfl) rfl fun hS => sO hS (x5 0 rfl MT rfl rfl Tryd.isAgg3) rfl fun hS => sB hS rfl fun hS => sB hS rfl fun hS => sO hS (yy rfl) rfl fun hS => sO hS (xv rfl Tryd.runUnderlying63 rfl Tryd.sizeOf3 rfl) rfl fun hS => J5 0 ([.int .i64 (YX .i64 (qh (MR.place_.at_ + (7 : Int))) (7 : Int)), xi MR.text_]) hS rfl rfl MT rfl rfl rfl rfl Tryd.sizeOf3 fun w MY MX hS => zn ?_
 exact jR (rs := []) hS rfl rfl (hret (YX .i64 (qh (MR.place_.at_ + (7 : Int))) (7 : Int)) MY _ (q8 hM) MX (hS.st.pick [0] (by kernel_rfl)))
theorem vw {H : xT} {F : List qk} {w : World} {R : Ending → World → Prop} {kr : ((List UInt8) × Int × Int) → Prop} {kp : Value → Prop} (hG : Gl H) (K : Nat) (MT : qG) (MU : Int) (MS : Nat) (MY : qk) (MZ : xM MY MS ([.int .i64 MT.place_.at_, xi MT.text_]) 118)
    (hS : St w H [MY] F) (hm : (yn.m K MT MU).wp kr kp)
    (hret : ∀ (Na : List UInt8) (Nb : Int) (MW : Int) (M4 : qk) (w : World), kr (Na, Nb, MW) → (xM M4 MS ([.int .i64 MW, xi MT.text_]) 118) → St w H [M4] F → R (.returned (.tuple ⟨[xi Na, .int .i64 Nb]⟩)) w) :
    Calls Tryd.prog 80 ⟨[qL MS 0, .int .i64 MU]⟩ w R := by
 refine enter Tryd.func80 rfl Tryd.ntmps80 rfl hS fun a w hS => ?_
 have hM := hm; clear hm
 rw [yn.m] at hM
 refine qm <| sA hS rfl fun hS => sA hS rfl fun hS => qA <| wp_seq <| qm <| sM hS rfl fun hS => sO hS (XR rfl rfl Tryd.runUnderlying94) rfl fun hS => sM hS rfl fun hS => zW hS rfl rfl rfl rfl (mv rfl) rfl fun a w hS => zW hS rfl rfl rfl rfl (js rfl rfl rfl) rfl fun a w hS => sO hS (pk rfl rfl rfl) rfl fun hS => qA <| qF hS rfl hM (fun M6 hM => ?_) (fun M6 hM => ?_)
 ·refine wp_seq ?_
  refine zP <| sA hS rfl fun hS => sA hS rfl fun hS => qA <| wp_ret <| zl ?_
  exact zD (rs := [4, 5]) hS rfl rfl (hret ([] : List UInt8) (1 : Int) MT.place_.at_ MY _ (q8 hM) MZ (hS.st.pick [0] (by kernel_rfl)))
 ·refine wp_skip ?_
  refine qe <| qm <| sM hS rfl fun hS => sO hS (yy rfl) rfl fun hS => sO hS (xv rfl Tryd.runUnderlying118 rfl Tryd.sizeOf63 rfl) rfl fun hS => qJ hS rfl Tryd.call89 (jW hG K MT MS MY MZ (hS.st.part 1 [0] (by kernel_rfl)) (qt hM) (fun MR M3 w hM MX hst => qz hS.ev hst.appF rfl fun hS => ?_))
  replace hS : Ss _ _ _ H [M3] F _ _ := hS
  refine qA <| wp_seq ?_
  obtain ⟨M8, hM⟩ := qK hM
  obtain ⟨MV, M0⟩ : ∃ x, x = (sub MT.text_ (yR .i64 MR (8 : Int)) (MT.text_.length : Int)) := ⟨_, rfl⟩
  replace hM := qB M0 hM
  refine za (vals := [some (qL MS 0), some (qL MS 0), some (qL MS 1), some (xi MT.text_), some (qL MS 0), some (qL MS 0), some (qL MS 0), some (qL MS 0), some (.int .i64 MR), some (.int .i64 (yR .i64 MR (8 : Int))), some (xi (sub MT.text_ (yR .i64 MR (8 : Int)) (MT.text_.length : Int))), some (xi MV)]) hS xG rfl ?_
  intro l w ho hcl hA hst
  refine ym hA hst ho hcl xH [0, 1, 2, 3, 4, 5, 6, 7, 8, 9, 10, 11] rfl rfl rfl (by exact ⟨nM rfl, nQ rfl (by exact qW (yy rfl) rfl), nQ rfl (by exact qW (xv rfl Tryd.runUnderlying118 rfl Tryd.sizeOf9 rfl) rfl), nQ rfl (by exact qW (x5 0 rfl MX rfl rfl Tryd.isAgg9) rfl), nM rfl, nQ rfl (by exact qW (yy rfl) rfl), nQ rfl (by exact qW (xv rfl Tryd.runUnderlying118 rfl Tryd.sizeOf63 rfl) rfl), nQ rfl (by exact qW (xv rfl Tryd.runUnderlying63 rfl Tryd.sizeOf3 rfl) rfl), nQ rfl (by exact qW (x5 0 rfl MX rfl rfl Tryd.isAgg3) rfl), nQ rfl (by exact qW (quo rfl rfl rfl) rfl), nQ rfl (by exact qW (Lf rfl Tryd.runUnderlying9 (G2 rfl) GV M8) rfl), nQ rfl (by exact qW (xD rfl) (congrArg (xi) M0.symm)), trivial⟩) fun a w hS => ?_
  replace hS := hS.env2 (e' := [(0, qL MS 0), (1, .int .i64 MU), (6, xi MV)]) ⟨rfl, rfl, rfl, trivial⟩
  refine qe <| wp_seq <| qm <| sM hS rfl fun hS => sM hS rfl fun hS => sO hS (ul rfl Tryd.runUnderlying9) rfl fun hS => sB hS rfl fun hS => qA <| qF hS rfl hM (fun M7 hM => ?_) (fun M7 hM => ?_)
  ·refine wp_seq ?_
   refine zP <| sA hS rfl fun hS => sA hS rfl fun hS => qA <| wp_ret <| zl ?_
   exact zD (rs := [4, 5]) hS rfl rfl (hret ([] : List UInt8) (2 : Int) MR M3 _ (q8 hM) MX (hS.st.pick [0] (by kernel_rfl)))
  ·refine wp_skip ?_
   refine qe <| qm <| sM hS rfl fun hS => sO hS (yy rfl) rfl fun hS => sO hS (xv rfl Tryd.runUnderlying118 rfl Tryd.sizeOf63 rfl) rfl fun hS => sO hS (xv rfl Tryd.runUnderlying63 rfl Tryd.sizeOf3 rfl) rfl fun hS => sO hS (x5 0 rfl MX rfl rfl Tryd.isAgg3) rfl fun hS => sM hS rfl fun hS => sB hS rfl fun hS => sB hS rfl fun hS => sO hS (yy rfl) rfl fun hS => sO hS (xv rfl Tryd.runUnderlying118 rfl Tryd.sizeOf63 rfl) rfl fun hS => sO hS (xv rfl Tryd.runUnderlying63 rfl Tryd.sizeOf3 rfl) rfl fun hS => J5 0 ([.int .i64 (qh (MR + (qh ((8 : Int) * MU)))), xi MT.text_]) hS rfl rfl MX rfl rfl rfl rfl Tryd.sizeOf3 fun w Nc M5 hS => qA <| qm <| sM hS rfl fun hS => sM hS rfl fun hS => ?_
   obtain ⟨M9, hM⟩ := qK hM
   refine sO hS (Lf rfl Tryd.runUnderlying9 Lj (DK rfl) M9) rfl fun hS => zG (v := xi) (x0 := (sub MV (0 : Int) MU)) hS (xD rfl) rfl fun Nd a w hz hS => ?_
   have hM := qB hz hM; clear hz
   refine sA hS rfl fun hS => qA <| wp_ret ?_
   exact zD (rs := [4, 5]) hS rfl rfl (hret Nd (0 : Int) (qh (MR + (qh ((8 : Int) * MU)))) Nc _ (q8 hM) M5 (hS.st.pick [0] (by kernel_rfl)))
theorem xb {H : xT} {F : List qk} {w : World} {R : Ending → World → Prop} {kr : Unit → Prop} {kp : Value → Prop} (hG : Gl H) (K : Nat) (MR : Bool) (MS : Int)
    (hS : St w H [] F) (hm : (zK.m K MR MS).wp kr kp)
    (hret : ∀ (w : World), kr () → St w H [] F → R (.returned (.tuple ⟨[]⟩)) w)
    (hpan : ∀ v w, kp v → St w H [] F → R (.panicked [⟨v, false, false⟩]) w) :
    Calls Tryd.prog 65 ⟨[.bool MR, .int .i64 MS]⟩ w R := by
 refine enter Tryd.func65 rfl Tryd.ntmps65 rfl hS fun a w hS => ?_
 have hM := hm; clear hm
 rw [zK.m] at hM
 refine qm <| sM hS rfl fun hS => qA <| qF hS rfl hM (fun MT hM => ?_) (fun MT hM => ?_)
 ·refine zP ?_
  refine sM hS rfl fun hS => sO hS (Xr ([.int .i64 MS]) [(0, 1)] Tryd.zeroValue92 Tryd.runUnderlying92 (by intro w; simp [Tryd.sizeOf28]) rfl rfl) rfl fun hS => sO hS (Lk rfl Tryd.runUnderlying92 rfl) rfl fun hS => QL hS rfl ?_
  exact ⟨hS.ev.defs, hpan _ _ (Z6 hM) hS.st.frame⟩
 ·refine wp_skip ?_
  exact jR (rs := []) hS rfl rfl (hret _ (q8 hM) (hS.st.pick [] (by kernel_rfl)))
theorem uz {H : xT} {F : List qk} {w : World} {R : Ending → World → Prop} {kr : (Int × (List Int)) → Prop} {kp : Value → Prop} (hG : Gl H) (K : Nat) (MT : qx) (MU : Nat) (MW : qk) (MY : Nat) (Nb : qk) (M3 : Option Addr) (M4 : Nat) (MX : qk) (MV : xM MW MU ([qL MY 0, .slice M3 MT.out_.length M4, .int .i64 MT.limit_]) 97) (Nk : xM Nb MY ([.int .i64 MT.Reader_.place_.at_, xi MT.Reader_.text_]) 118) (Nm : xj 5 (ci .u8) 1 M3 MT.out_ M4 MX)
    (hS : St w H [MW, Nb, MX] F) (hm : (x8.m K MT).wp kr kp)
    (hret : ∀ (M0 : Int) (Nh : qk) (Nd : Option Addr) (Ng : Nat) (MZ : (List Int)) (Ni : qk) (Nj : qk) (w : World), kr (M0, MZ) → (xM Nh MY ([.int .i64 M0, xi MT.Reader_.text_]) 118) → (xj 5 (ci .u8) 1 Nd MZ Ng Ni) → (xM Nj MU ([qL MY 0, .slice Nd MZ.length Ng, .int .i64 MT.limit_]) 97) → St w H [Nj, Nh, Ni] F → R (.returned (.tuple ⟨[]⟩)) w)
    (hpan : ∀ v w, kp v → St w H [] F → R (.panicked [⟨v, false, false⟩]) w) :
    Calls Tryd.prog 61 ⟨[qL MU 0]⟩ w R := by
 refine enter Tryd.func61 rfl Tryd.ntmps61 rfl hS fun a w hS => ?_
 have hM := hm; clear hm
 rw [x8.m] at hM
 refine qm <| sM hS rfl fun hS => sO hS (yy rfl) rfl fun hS => sO hS (xv rfl Tryd.runUnderlying97 rfl Tryd.sizeOf94 rfl) rfl fun hS => sO hS (x5 0 rfl MV rfl rfl Tryd.isAgg94) rfl fun hS => qJ hS rfl Tryd.call80 (vw hG K MT.Reader_ (4 : Int) MY Nb Nk (hS.st.part 1 [1, 0, 2] (by kernel_rfl)) (qt hM) (fun MR Nx M9 M5 w hM Nv hst => qz hS.ev hst.appF rfl fun hS => ?_))
 replace hS : Ss _ _ _ H [M5, MW, MX] F _ _ := hS
 refine sM hS rfl fun hS => sO hS (ex rfl rfl) rfl fun hS => sO hS (ex rfl rfl) rfl fun hS => sA hS rfl fun hS => sA hS rfl fun hS => qA <| qm <| sM hS rfl fun hS => qJ hS rfl Tryd.call79 (jN hG K Nx (hS.st.part 0 [0, 1, 2] (by kernel_rfl)) (qt hM) (fun  w hM  hst => qz hS.ev hst.appF rfl fun hS => ?_) (fun v w hk hst => xo (qD (⟨hS.ev.defs, hpan _ _ hk hst.appF.frame⟩))))
 replace hS : Ss _ _ _ H [M5, MW, MX] F _ _ := hS
 refine qA <| wp_seq ?_
 obtain ⟨No, hM⟩ := qK hM
 obtain ⟨Np, hM⟩ := qK hM
 obtain ⟨MS, M7⟩ : ∃ x, x = (QP .i64 (wr .i64 ((rd MR (0 : Int)).toNat : Int)) (z7 .i64 (wr .i64 ((rd MR (1 : Int)).toNat : Int)) (8 : Int))) := ⟨_, rfl⟩
 replace hM := qB M7 hM
 refine za (vals := [some (xi MR), some (.int .u8 ((rd MR (0 : Int)).toNat : Int)), some (.int .i64 (wr .i64 ((rd MR (0 : Int)).toNat : Int))), some (xi MR), some (.int .u8 ((rd MR (1 : Int)).toNat : Int)), some (.int .i64 (wr .i64 ((rd MR (1 : Int)).toNat : Int))), some (.int .i64 (z7 .i64 (wr .i64 ((rd MR (1 : Int)).toNat : Int)) (8 : Int))), some (.int .i64 (QP .i64 (wr .i64 ((rd MR (0 : Int)).toNat : Int)) (z7 .i64 (wr .i64 ((rd MR (1 : Int)).toNat : Int)) (8 : Int)))), some (.int .i64 MS)]) hS xG rfl ?_
 intro l w ho hcl hA hst
 refine ym hA hst ho hcl xH [0, 1, 2, 3, 4, 5, 6, 7, 8] rfl rfl rfl (by exact ⟨nM rfl, nQ rfl (by exact qW (U2 rfl rfl Tryd.runUnderlying9 No) rfl), nQ rfl (by exact qW (u7 rfl Tryd.runUnderlying5 Tryd.runUnderlying3) rfl), nM rfl, nQ rfl (by exact qW (U2 rfl rfl Tryd.runUnderlying9 Np) rfl), nQ rfl (by exact qW (u7 rfl Tryd.runUnderlying5 Tryd.runUnderlying3) rfl), nQ rfl (by exact qW (shl rfl rfl rfl) rfl), nB rfl, nQ rfl (by exact qW (xD rfl) (congrArg (Value.int .i64) M7.symm)), trivial⟩) fun a w hS => ?_
 replace hS := hS.env2 (e' := [(0, qL MU 0), (2, xi MR), (4, .int .i64 MS)]) ⟨rfl, rfl, rfl, trivial⟩
 refine qe <| wp_seq ?_
 obtain ⟨Nq, hM⟩ := qK hM
 obtain ⟨Nr, hM⟩ := qK hM
 refine za (vals := [some (xi MR), some (.int .u8 ((rd MR (2 : Int)).toNat : Int)), some (.int .i64 (wr .i64 ((rd MR (2 : Int)).toNat : Int))), some (xi MR), some (.int .u8 ((rd MR (3 : Int)).toNat : Int)), some (.int .i64 (wr .i64 ((rd MR (3 : Int)).toNat : Int))), some (.int .i64 (z7 .i64 (wr .i64 ((rd MR (3 : Int)).toNat : Int)) (8 : Int))), some (.int .i64 (QP .i64 (wr .i64 ((rd MR (2 : Int)).toNat : Int)) (z7 .i64 (wr .i64 ((rd MR (3 : Int)).toNat : Int)) (8 : Int)))), some (.int .i64 MS), some (.int .i64 (ZR .i64 MS (65535 : Int))), some (.bool ((QP .i64 (wr .i64 ((rd MR (2 : Int)).toNat : Int)) (z7 .i64 (wr .i64 ((rd MR (3 : Int)).toNat : Int)) (8 : Int))) != (ZR .i64 MS (65535 : Int)))), none]) hS xG rfl ?_
 intro l w ho hcl hA hst
 refine jg hA hst ho hcl xx xH 11 [0, 1, 2, 3, 4, 5, 6, 7, 8, 9, 10] rfl rfl rfl rfl rfl (by exact ⟨nM rfl, nQ rfl (by exact qW (U2 rfl rfl Tryd.runUnderlying9 Nq) rfl), nQ rfl (by exact qW (u7 rfl Tryd.runUnderlying5 Tryd.runUnderlying3) rfl), nM rfl, nQ rfl (by exact qW (U2 rfl rfl Tryd.runUnderlying9 Nr) rfl), nQ rfl (by exact qW (u7 rfl Tryd.runUnderlying5 Tryd.runUnderlying3) rfl), nQ rfl (by exact qW (shl rfl rfl rfl) rfl), nB rfl, nM rfl, nB rfl, nB rfl, trivial⟩) fun D l a w ho hcl hav hpre hm hE hk hA hst => ?_
 have hS := (Ss.mk hE hst).env2 (e' := [(34, .bool ((QP .i64 (wr .i64 ((rd MR (2 : Int)).toNat : Int)) (z7 .i64 (wr .i64 ((rd MR (3 : Int)).toNat : Int)) (8 : Int))) != (ZR .i64 MS (65535 : Int))))]) ⟨rfl, trivial⟩
 refine qQ rfl <| qJ hS rfl Tryd.call65 (xb hG K ((QP .i64 (wr .i64 ((rd MR (2 : Int)).toNat : Int)) (z7 .i64 (wr .i64 ((rd MR (3 : Int)).toNat : Int)) (8 : Int))) != (ZR .i64 MS (65535 : Int))) (3 : Int) (hS.st.part 0 [0, 1, 2] (by kernel_rfl)) (qt hM) (fun  w hM  hst => qz hS.ev hst.appF rfl fun hS => ?_) (fun v w hk hst => xo (qD (qD (⟨hS.ev.defs, hpan _ _ hk hst.appF.frame⟩)))))
 replace hS : Ss _ _ _ H [M5, MW, MX] F _ _ := hS
 refine qA ?_
 replace hst := hS.st
 obtain ⟨hcl, hmust, hav2, hA⟩ := dn (vals' := [some (xi MR), some (.int .u8 ((rd MR (2 : Int)).toNat : Int)), some (.int .i64 (wr .i64 ((rd MR (2 : Int)).toNat : Int))), some (xi MR), some (.int .u8 ((rd MR (3 : Int)).toNat : Int)), some (.int .i64 (wr .i64 ((rd MR (3 : Int)).toNat : Int))), some (.int .i64 (z7 .i64 (wr .i64 ((rd MR (3 : Int)).toNat : Int)) (8 : Int))), some (.int .i64 (QP .i64 (wr .i64 ((rd MR (2 : Int)).toNat : Int)) (z7 .i64 (wr .i64 ((rd MR (3 : Int)).toNat : Int)) (8 : Int)))), some (.int .i64 MS), some (.int .i64 (ZR .i64 MS (65535 : Int))), some (.bool ((QP .i64 (wr .i64 ((rd MR (2 : Int)).toNat : Int)) (z7 .i64 (wr .i64 ((rd MR (3 : Int)).toNat : Int)) (8 : Int))) != (ZR .i64 MS (65535 : Int)))), some (.tuple ⟨[]⟩)]) 11 [(10, 11), (7, 10), (9, 10), (2, 7), (6, 7), (8, 9), (1, 2), (5, 6), (0, 1), (4, 5), (3, 4)] hA hcl hav hm hpre hk rfl rfl rfl rfl rfl rfl rfl
 clear hm hav
 refine ym hA hst ho hcl hmust [] rfl rfl rfl trivial fun a w hS => ?_
 replace hS := hS.env2 (e' := [(0, qL MU 0), (4, .int .i64 MS)]) ⟨rfl, rfl, trivial⟩
 refine qe <| qm <| sM hS rfl fun hS => sO hS (yy rfl) rfl fun hS => sO hS (xv rfl Tryd.runUnderlying97 rfl Tryd.sizeOf94 rfl) rfl fun hS => sO hS (x5 1 rfl MV rfl rfl Tryd.isAgg94) rfl fun hS => sM hS rfl fun hS => qJ hS rfl Tryd.call80 (vw hG K (qG.mk (qr.mk M9) MT.Reader_.text_) MS MY M5 Nv (hS.st.part 1 [0, 1, 2] (by kernel_rfl)) (qt hM) (fun Ny Nz Na M6 w hM Nw hst => qz hS.ev hst.appF rfl fun hS => ?_))
 replace hS : Ss _ _ _ H [M6, MW, MX] F _ _ := hS
 refine sM hS rfl fun hS => sO hS (ex rfl rfl) rfl fun hS => sO hS (ex rfl rfl) rfl fun hS => sA hS rfl fun hS => sA hS rfl fun hS => qA <| qm <| sM hS rfl fun hS => qJ hS rfl Tryd.call79 (jN hG K Nz (hS.st.part 0 [0, 1, 2] (by kernel_rfl)) (qt hM) (fun  w hM  hst => qz hS.ev hst.appF rfl fun hS => ?_) (fun v w hk hst => xo (qD (⟨hS.ev.defs, hpan _ _ hk hst.appF.frame⟩))))
 replace hS : Ss _ _ _ H [M6, MW, MX] F _ _ := hS
 refine qA <| wp_seq <| za (vals := [some (qL MU 0), some (qL MU 0), some (qL MU 1), some (.slice M3 MT.out_.length M4), some (.int .i64 (MT.out_.length : Int)), some (.int .i64 MS), some (.int .i64 (qh ((MT.out_.length : Int) + MS))), some (qL MU 0), some (qL MU 0), some (qL MU 2), some (.int .i64 MT.limit_), some (.bool (decide ((qh ((MT.out_.length : Int) + MS)) > MT.limit_))), none]) hS xG rfl ?_
 intro l w ho hcl hA hst
 refine jg hA hst ho hcl xx xH 12 [0, 1, 2, 3, 4, 5, 6, 7, 8, 9, 10, 11] rfl rfl rfl rfl rfl (by exact ⟨nM rfl, nQ rfl (by exact qW (yy rfl) rfl), nQ rfl (by exact qW (xv rfl Tryd.runUnderlying97 rfl Tryd.sizeOf32 rfl) rfl), nQ rfl (by exact qW (x5 1 rfl MV rfl rfl Tryd.isAgg32) rfl), nQ rfl (by exact qW (yk rfl Tryd.runUnderlying32) rfl), nM rfl, nB rfl, nM rfl, nQ rfl (by exact qW (yy rfl) rfl), nQ rfl (by exact qW (xv rfl Tryd.runUnderlying97 rfl Tryd.sizeOf3 rfl) rfl), nQ rfl (by exact qW (x5 1 rfl MV rfl rfl Tryd.isAgg3) rfl), nB rfl, trivial⟩) fun D l a w ho hcl hav hpre hm hE hk hA hst => ?_
 have hS := (Ss.mk hE hst).env2 (e' := [(58, .bool (decide ((qh ((MT.out_.length : Int) + MS)) > MT.limit_)))]) ⟨rfl, trivial⟩
 refine qQ rfl <| qJ hS rfl Tryd.call65 (xb hG K (decide ((qh ((MT.out_.length : Int) + MS)) > MT.limit_)) (11 : Int) (hS.st.part 0 [0, 1, 2] (by kernel_rfl)) (qt hM) (fun  w hM  hst => qz hS.ev hst.appF rfl fun hS => ?_) (fun v w hk hst => xo (qD (qD (⟨hS.ev.defs, hpan _ _ hk hst.appF.frame⟩)))))
 replace hS : Ss _ _ _ H [M6, MW, MX] F _ _ := hS
 refine qA ?_
 replace hst := hS.st
 obtain ⟨hcl, hmust, hav2, hA⟩ := dn (vals' := [some (qL MU 0), some (qL MU 0), some (qL MU 1), some (.slice M3 MT.out_.length M4), some (.int .i64 (MT.out_.length : Int)), some (.int .i64 MS), some (.int .i64 (qh ((MT.out_.length : Int) + MS))), some (qL MU 0), some (qL MU 0), some (qL MU 2), some (.int .i64 MT.limit_), some (.bool (decide ((qh ((MT.out_.length : Int) + MS)) > MT.limit_))), some (.tuple ⟨[]⟩)]) 12 [(11, 12), (6, 11), (10, 11), (4, 6), (5, 6), (9, 10), (3, 4), (8, 9), (2, 3), (7, 8), (1, 2), (0, 1)] hA hcl hav hm hpre hk rfl rfl rfl rfl rfl rfl rfl
 clear hm hav
 refine ym hA hst ho hcl hmust [] rfl rfl rfl trivial fun a w hS => ?_
 replace hS := hS.env2 (e' := [(0, qL MU 0), (5, xi Ny)]) ⟨rfl, rfl, trivial⟩
 refine qe <| zP <| sM hS rfl fun hS => sM hS rfl fun hS => sO hS (yy rfl) rfl fun hS => sO hS (xv rfl Tryd.runUnderlying97 rfl Tryd.sizeOf32 rfl) rfl fun hS => sO hS (x5 1 rfl MV rfl rfl Tryd.isAgg32) rfl fun hS => sM hS rfl fun hS => ?_
 obtain ⟨Ns, hM⟩ := qK hM
 refine Mm 2 hS rfl rfl Nm rfl Tryd.runUnderlying32 Tryd.runUnderlying9 X.el5 rfl Ns rfl fun M8 w Nc Nf Nt hz Nn hS => ?_
 have hM := qB hz hM; clear hz
 refine sO hS (yy rfl) rfl fun hS => sO hS (xv rfl Tryd.runUnderlying97 rfl Tryd.sizeOf32 rfl) rfl fun hS => J5 1 ([qL MY 0, .slice Nc M8.length Nf, .int .i64 MT.limit_]) hS rfl rfl MV rfl rfl rfl rfl Tryd.sizeOf32 fun w Nu Nl hS => zn ?_
 exact jR (rs := []) hS rfl rfl (hret Na M6 Nc Nf M8 Nt Nu _ (q8 hM) Nw Nn Nl (hS.st.pick [1, 0, 2] (by kernel_rfl)))
theorem uP {H : xT} {F : List qk} {w : World} {R : Ending → World → Prop} {kr : ((List Int) × Bool) → Prop} {kp : Value → Prop} (hG : Gl H) (K : Nat) (MR : List Int) (Ng : Option Addr) (Nh : Nat) (Nf : jT H [] F (ci .i64) Ng MR) (Nz : MR.length ≤ Nh)
    (hS : St w H [] F) (hm : (xg.m K MR).wp kr kp)
    (hret : ∀ (Nj : (List Int)) (Nt : Bool) (w : World), kr (Nj, Nt) → (Nj.length = 16) → St w H [] F → R (.returned (.tuple ⟨[.agg ⟨Nj.flatMap (ci .i64)⟩, .bool Nt]⟩)) w) :
    Calls Tryd.prog 70 ⟨[.slice Ng MR.length Nh]⟩ w R := by
 refine enter Tryd.func70 rfl Tryd.ntmps70 rfl hS fun a w hS => ?_
 have hM := hm; clear hm
 rw [xg.m] at hM
 refine qm <| QF ((List.replicate 16 (0 : Int)).flatMap (ci .i64)) hS Tryd.zeroValue127 rfl rfl fun w MV Nu M3 hS => sA hS rfl fun hS => qA <| wp_seq <| qm <| sM hS rfl fun hS => sO hS (yk rfl Tryd.runUnderlying66) rfl fun hS => sB hS rfl fun hS => qA <| qF hS rfl hM (fun No hM => ?_) (fun No hM => ?_)
 ·refine wp_seq ?_
  refine zP <| sO hS (YG (xs := (List.replicate 16 (0 : Int))) (g := (ci .i64)) (pre := []) (post := []) 0 rfl M3 rfl (by simp) rfl (xf (g := (ci .i64)) (sz := 1) (fun _ => rfl) (List.length_replicate ..)) Tryd.isAgg127 Tryd.sizeOf127) rfl fun hS => YI (xs := (List.replicate 16 (0 : Int))) (ys := (List.replicate 16 (0 : Int))) (g := (ci .i64)) (pre := []) (post := []) 0 hS rfl rfl M3 rfl (by simp) rfl (xf (g := (ci .i64)) (sz := 1) (fun _ => rfl) (List.length_replicate ..)) (xf (g := (ci .i64)) (sz := 1) (fun _ => rfl) (List.length_replicate ..)) (xJ) Tryd.sizeOf127 fun w Nv M4 hS => ?_
  replace M4 : xM Nv MV ((List.replicate 16 (0 : Int)).flatMap (ci .i64)) 127 := by simpa using M4
  refine sA hS rfl fun hS => qA <| wp_ret <| zl ?_
  exact jk (vs := [.agg ⟨(List.replicate 16 (0 : Int)).flatMap (ci .i64)⟩, .bool false]) hS rfl (by exact ⟨LQ 0 rfl M4 rfl (xf (g := (ci .i64)) (sz := 1) (fun _ => rfl) (List.length_replicate ..)) Tryd.isAgg127 Tryd.sizeOf127, Ll rfl, trivial⟩) (hret (List.replicate 16 (0 : Int)) false _ (q8 hM) (List.length_replicate ..) (hS.st.pick [] (by kernel_rfl)))
 ·refine wp_skip ?_
  refine qe <| zm (fun a w => ∃ (MW : (List Int)) (Ni : qk), Ss 31 [] [(2, qL MV 0)] H [Ni] F a w ∧ (MW.length = 16) ∧ (xM Ni MV (MW.flatMap (ci .i64)) 127) ∧ (xg.j2 K MW).wp kr kp) (fun NB Nn => ?_) ?_
  ·refine wp_seq ?_
   refine zP <| sM hS rfl fun hS => sO hS (yk rfl Tryd.runUnderlying66) rfl fun hS => sM hS rfl fun hS => qA <| xS <| zv (fun Ns a w => ∃ (MS : (List Int)) (Nb : qk) (M9 : Int), Ss 31 [] [(2, qL MV 0), (10, .slice Ng MR.length Nh), (11, .int .i64 (MR.length : Int)), (12, .int .i64 M9)] H [Nb] F a w ∧ (MS.length = 16) ∧ (xM Nb MV (MS.flatMap (ci .i64)) 127) ∧ (xg.l1 K MR Ns MS M9).wp kr kp) K ?_ ?_ ?_
   ·exact ⟨(List.replicate 16 (0 : Int)), Nu, (0 : Int), hS.to [0] (by kernel_rfl) ⟨rfl, rfl, rfl, rfl, trivial⟩, (List.length_replicate ..), M3, hM⟩
   ·intro a w hI; obtain ⟨_, _, _, _, _, _, hM⟩ := hI; exact zt hM
   ·intro Ns a w hI NA Nm
    obtain ⟨MS, Nb, M9, hS, MT, MX, hM⟩ := hI
    rw [xg.l1] at hM
    refine qm <| sB hS rfl fun hS => qA <| wp_seq <| qF hS rfl hM (fun Np hM => ?_) (fun Np hM => ?_)
    ·refine wp_skip ?_
     refine qe <| wp_seq <| xS <| wp_seq <| zP ?_
     obtain ⟨Nc, hM⟩ := qK hM
     refine sO hS (yv rfl rfl Tryd.runUnderlying66 Tryd.sizeOf3 Nf.wk (fun _ => rfl) rfl Nc) rfl fun hS => sO hS (yG rfl Nf.wk (fun _ => rfl) Nc rfl Tryd.isAgg3) rfl fun hS => zG (v := Value.int .i64) (x0 := (rd MR M9)) hS (xD rfl) rfl fun M8 a w hz hS => ?_
     have hM := qB hz hM; clear hz
     refine qA <| wp_seq <| qm <| sM hS rfl fun hS => sB hS rfl fun hS => sM hS rfl fun hS => yJ 2 false 18 (b := (decide (M8 < (0 : Int)))) (r := (decide (M8 > (15 : Int)))) hS rfl rfl rfl rfl rfl rfl rfl (fun hb a w hS K hK => ?_) rfl fun a w hS => ?_
     ·refine zW hS rfl rfl rfl hb (mv rfl) rfl fun a w hS => ?_
      refine zW hS rfl rfl rfl hb (js rfl rfl rfl) rfl fun a w hS => ?_
      exact zn (hK _ _ (hS.up 2 rfl rfl))
     refine qA <| qF hS rfl hM (fun Nq hM => ?_) (fun Nq hM => ?_)
     ·refine wp_seq ?_
      refine zP <| sO hS (YG (xs := MS) (g := (ci .i64)) (pre := []) (post := []) 0 rfl MX rfl (by simp) rfl (xf (g := (ci .i64)) (sz := 1) (fun _ => rfl) MT) Tryd.isAgg127 Tryd.sizeOf127) rfl fun hS => YI (xs := MS) (ys := MS) (g := (ci .i64)) (pre := []) (post := []) 0 hS rfl rfl MX rfl (by simp) rfl (xf (g := (ci .i64)) (sz := 1) (fun _ => rfl) MT) (xf (g := (ci .i64)) (sz := 1) (fun _ => rfl) MT) (xJ) Tryd.sizeOf127 fun w Nw M5 hS => ?_
      replace M5 : xM Nw MV (MS.flatMap (ci .i64)) 127 := by simpa using M5
      refine sA hS rfl fun hS => qA <| wp_ret <| zl (x6 (zl (zl (x6 (zl ?_)))))
      exact jk (vs := [.agg ⟨MS.flatMap (ci .i64)⟩, .bool false]) hS rfl (by exact ⟨LQ 0 rfl M5 rfl (xf (g := (ci .i64)) (sz := 1) (fun _ => rfl) MT) Tryd.isAgg127 Tryd.sizeOf127, Ll rfl, trivial⟩) (hret MS false _ (q8 hM) MT (hS.st.pick [] (by kernel_rfl)))
     ·refine wp_skip ?_
      refine qe <| zP <| sM hS rfl fun hS => ?_
      obtain ⟨M0, hM⟩ := qK hM
      refine sO hS (V5 rfl rfl Tryd.runUnderlying127 Tryd.sizeOf3 M0) rfl fun hS => sO hS (LG (xs := MS) (g := (ci .i64)) (pre := []) (post := []) 0 rfl MX rfl (by simp) rfl (fun _ => rfl) (y9 MT M0) rfl Tryd.isAgg3) rfl fun hS => sB hS rfl fun hS => sO hS (V5 rfl rfl Tryd.runUnderlying127 Tryd.sizeOf3 M0) rfl fun hS => Gp (xs := MS) (g := (ci .i64)) (pre := []) (post := []) 0 ((qh ((rd MS M8) + (1 : Int)))) hS rfl rfl MX rfl (by simp) rfl (fun _ => rfl) (y9 MT M0) rfl Tryd.sizeOf3 (xJ _) fun Na w Nk hz M6 hS => ?_
      have Nr : Na.length = 16 := by rw [hz, List.length_set]; exact MT
      have hM := qB hz hM; clear hz
      replace M6 : xM Nk MV (Na.flatMap (ci .i64)) 127 := by simpa using M6
      refine zn <| zy (qe ?_)
      refine zP <| sB hS rfl fun hS => sM hS rfl fun hS => zn <| qe ?_
      exact Nm _ _ ⟨Na, Nk, (qh (M9 + (1 : Int))), hS.to [0] (by kernel_rfl) ⟨rfl, rfl, rfl, rfl, trivial⟩, Nr, M6, hM⟩
    ·refine wp_exit ?_
     refine qE (qE (zd (qe ?_)))
     exact Nn _ _ ⟨MS, Nb, hS.to [0] (by kernel_rfl) ⟨rfl, trivial⟩, MT, MX, hM⟩
  ·intro a w hI
   obtain ⟨MW, Ni, hS, Nd, Nl, hM⟩ := hI
   rw [xg.j2] at hM
   refine qm <| sO hS (V5 rfl rfl Tryd.runUnderlying127 Tryd.sizeOf3 rfl) rfl fun hS => Gp (xs := MW) (g := (ci .i64)) (pre := []) (post := []) 0 ((0 : Int)) hS rfl rfl Nl rfl (by simp) rfl (fun _ => rfl) (y9 Nd rfl) rfl Tryd.sizeOf3 (xJ _) fun MU w Nx hz MZ hS => ?_
   have MY : MU.length = 16 := by rw [hz, List.length_set]; exact Nd
   have hM := qB hz hM; clear hz
   replace MZ : xM Nx MV (MU.flatMap (ci .i64)) 127 := by simpa using MZ
   refine qA <| qm <| sO hS (YG (xs := MU) (g := (ci .i64)) (pre := []) (post := []) 0 rfl MZ rfl (by simp) rfl (xf (g := (ci .i64)) (sz := 1) (fun _ => rfl) MY) Tryd.isAgg127 Tryd.sizeOf127) rfl fun hS => YI (xs := MU) (ys := MU) (g := (ci .i64)) (pre := []) (post := []) 0 hS rfl rfl MZ rfl (by simp) rfl (xf (g := (ci .i64)) (sz := 1) (fun _ => rfl) MY) (xf (g := (ci .i64)) (sz := 1) (fun _ => rfl) MY) (xJ) Tryd.sizeOf127 fun w Ny M7 hS => ?_
   replace M7 : xM Ny MV (MU.flatMap (ci .i64)) 127 := by simpa using M7
   refine sA hS rfl fun hS => qA <| wp_ret ?_
   exact jk (vs := [.agg ⟨MU.flatMap (ci .i64)⟩, .bool true]) hS rfl (by exact ⟨LQ 0 rfl M7 rfl (xf (g := (ci .i64)) (sz := 1) (fun _ => rfl) MY) Tryd.isAgg127 Tryd.sizeOf127, Ll rfl, trivial⟩) (hret MU true _ (q8 hM) MY (hS.st.pick [] (by kernel_rfl)))
theorem Zk {H : xT} {F : List qk} {w : World} {R : Ending → World → Prop} {kr : Int → Prop} {kp : Value → Prop} (hG : Gl H) (K : Nat) (MR : List Int) (MY : Option Addr) (M0 : Nat) (Nf : jT H [] F (ci .i64) MY MR) (Nb : MR.length ≤ M0)
    (hS : St w H [] F) (hm : (xr.m K MR).wp kr kp)
    (hret : ∀ (Ni : Int) (w : World), kr Ni → St w H [] F → R (.returned (.int .i64 Ni)) w) :
    Calls Tryd.prog 69 ⟨[.slice MY MR.length M0]⟩ w R := by
 refine enter Tryd.func69 rfl Tryd.ntmps69 rfl hS fun a w hS => ?_
 have hM := hm; clear hm
 rw [xr.m] at hM
 refine qm <| sA hS rfl fun hS => qA <| qm <| sM hS rfl fun hS => qJ hS rfl Tryd.call70 (uP hG K MR MY M0 (Nf.app _) Nb (hS.st.part 0 [] (by kernel_rfl)) (qt hM) (fun MU Nm w hM MX hst => qz hS.ev hst.appF rfl fun hS => ?_))
 replace hS : Ss _ _ _ H [] F _ _ := hS
 refine sM hS rfl fun hS => sO hS (ex rfl rfl) rfl fun hS => sO hS (ex rfl rfl) rfl fun hS => QF ((List.replicate 16 (0 : Int)).flatMap (ci .i64)) hS Tryd.zeroValue127 rfl rfl fun w MZ Nl M5 hS => YI (xs := (List.replicate 16 (0 : Int))) (ys := MU) (g := (ci .i64)) (pre := []) (post := []) 0 hS rfl rfl M5 rfl (by simp) rfl (xf (g := (ci .i64)) (sz := 1) (fun _ => rfl) (List.length_replicate ..)) (xf (g := (ci .i64)) (sz := 1) (fun _ => rfl) MX) (xJ) Tryd.sizeOf127 fun w M3 MV hS => ?_
 replace MV : xM M3 MZ (MU.flatMap (ci .i64)) 127 := by simpa using MV
 refine sA hS rfl fun hS => qA <| wp_seq <| qm <| sM hS rfl fun hS => sO hS (un rfl rfl) rfl fun hS => qA <| qF hS rfl hM (fun M8 hM => ?_) (fun M8 hM => ?_)
 ·refine wp_seq ?_
  refine zP <| sA hS rfl fun hS => qA <| wp_ret <| zl ?_
  exact zD (rs := [2]) hS rfl rfl (hret (1 : Int) _ (q8 hM) (hS.st.pick [] (by kernel_rfl)))
 ·refine wp_skip ?_
  refine qe <| qm <| sA hS rfl fun hS => qA <| zm (fun a w => ∃ (MS : Int), Ss 38 [] [(3, qL MZ 0), (5, .int .i64 MS)] H [M3] F a w ∧ (xr.j2 K MU MS).wp kr kp) (fun Nk M7 => ?_) ?_
  ·refine wp_seq ?_
   refine zP <| sO hS (YG (xs := MU) (g := (ci .i64)) (pre := []) (post := []) 0 rfl MV rfl (by simp) rfl (xf (g := (ci .i64)) (sz := 1) (fun _ => rfl) MX) Tryd.isAgg127 Tryd.sizeOf127) rfl fun hS => sM hS rfl fun hS => qA <| xS <| zv (fun Ng a w => ∃ (MT : Int) (MW : Int), Ss 38 [] [(3, qL MZ 0), (5, .int .i64 MT), (15, .agg ⟨MU.flatMap (ci .i64)⟩), (16, .int .i64 MW)] H [M3] F a w ∧ (xr.l1 K MU Ng MT MW).wp kr kp) K ?_ ?_ ?_
   ·exact ⟨(0 : Int), (0 : Int), hS.to [0] (by kernel_rfl) ⟨rfl, rfl, rfl, rfl, trivial⟩, hM⟩
   ·intro a w hI; obtain ⟨_, _, _, hM⟩ := hI; exact zt hM
   ·intro Ng a w hI Nj M6
    obtain ⟨MT, MW, hS, hM⟩ := hI
    rw [xr.l1] at hM
    refine qm <| sB hS rfl fun hS => qA <| wp_seq <| qF hS rfl hM (fun M9 hM => ?_) (fun M9 hM => ?_)
    ·refine wp_skip ?_
     refine qe <| wp_seq <| xS <| qm <| sM hS rfl fun hS => ?_
     obtain ⟨Nc, hM⟩ := qK hM
     refine sO hS (Mc rfl rfl Tryd.runUnderlying127 Tryd.isAgg3 Tryd.sizeOf3 (fun _ => rfl) MX Nc rfl) rfl fun hS => sA hS rfl fun hS => zG (v := Value.int .i64) (x0 := (rd MU MW)) hS (xD rfl) rfl fun Nh a w hz hS => ?_
     have hM := qB hz hM; clear hz
     refine qA <| zP <| sM hS rfl fun hS => sM hS rfl fun hS => sM hS rfl fun hS => ?_
     obtain ⟨Nd, hM⟩ := qK hM
     refine sO hS (shr rfl rfl Nd) rfl fun hS => sB hS rfl fun hS => sB hS rfl fun hS => zG (v := Value.int .i64) (x0 := (qh (MT + (qh (Nh * (xa .i64 (32768 : Int) MW)))))) hS (xD rfl) rfl fun M4 a w hz hS => ?_
     have hM := qB hz hM; clear hz
     refine zn <| zy (qe ?_)
     refine zP <| sB hS rfl fun hS => sM hS rfl fun hS => zn <| qe ?_
     exact M6 _ _ ⟨M4, (qh (MW + (1 : Int))), hS.to [0] (by kernel_rfl) ⟨rfl, rfl, rfl, rfl, trivial⟩, hM⟩
    ·refine wp_exit ?_
     refine qE (qE (zd (qe ?_)))
     exact M7 _ _ ⟨MT, hS.to [0] (by kernel_rfl) ⟨rfl, rfl, trivial⟩, hM⟩
  ·intro a w hI
   obtain ⟨MS, hS, hM⟩ := hI
   rw [xr.j2] at hM
   refine wp_seq <| qm <| sM hS rfl fun hS => sB hS rfl fun hS => sM hS rfl fun hS => yJ 2 false 29 (b := (MS == (0 : Int))) (r := (MS == (32768 : Int))) hS rfl rfl rfl rfl rfl rfl rfl (fun hb a w hS K hK => ?_) rfl fun a w hS => ?_
   ·refine zW hS rfl rfl rfl hb (mv rfl) rfl fun a w hS => ?_
    refine zW hS rfl rfl rfl hb (js rfl rfl rfl) rfl fun a w hS => ?_
    exact zn (hK _ _ (hS.up 2 rfl rfl))
   refine sM hS rfl fun hS => yJ 3 false 33 (b := ((MS == (0 : Int)) || (MS == (32768 : Int)))) (r := (MU == ([0, (1 : Int), 0, 0, 0, 0, 0, 0, 0, 0, 0, 0, 0, 0, 0, 0] : List Int))) hS rfl rfl rfl rfl rfl rfl rfl (fun hb a w hS K hK => ?_) rfl fun a w hS => ?_
   ·refine zW hS rfl rfl rfl hb (YG (xs := MU) (g := (ci .i64)) (pre := []) (post := []) 0 rfl MV rfl (by simp) rfl (xf (g := (ci .i64)) (sz := 1) (fun _ => rfl) MX) Tryd.isAgg127 Tryd.sizeOf127) rfl fun a w hS => ?_
    refine zW hS rfl rfl rfl hb (Bb (([0, (1 : Int), 0, 0, 0, 0, 0, 0, 0, 0, 0, 0, 0, 0, 0, 0] : List Int).flatMap (ci .i64)) Tryd.zeroValue127 Tryd.runUnderlying127 Tryd.sizeOf3 rfl (by kernel_rfl)) rfl fun a w hS => zW hS rfl rfl rfl hb (Gx rfl rfl Tryd.runUnderlying127 Tryd.runUnderlying3 Tryd.sizeOf3 Tryd.isAgg3 MX rfl Tryd.eqGuardType127 rfl) rfl fun a w hS => ?_
    exact zn (hK _ _ (hS.up 3 rfl rfl))
   refine qA <| qF hS rfl hM (fun Na hM => ?_) (fun Na hM => ?_)
   ·refine wp_seq ?_
    refine zP <| sA hS rfl fun hS => qA <| wp_ret <| zl ?_
    exact zD (rs := [2]) hS rfl rfl (hret (0 : Int) _ (q8 hM) (hS.st.pick [] (by kernel_rfl)))
   ·refine wp_skip ?_
    refine qe <| qm <| sA hS rfl fun hS => qA <| wp_ret ?_
    exact zD (rs := [2]) hS rfl rfl (hret (3 : Int) _ (q8 hM) (hS.st.pick [] (by kernel_rfl)))
def qH.Own (MW : Nat) (MR : qH) (MX : qk) : Prop :=
  ∃ (MU : qk) (MS : Option Addr) (MT : Nat) (MV : qk), MX = MU ++ MV ∧ xM MU MW ((MR.counts_.flatMap (ci .i64)) ++ [.slice MS MR.symbols_.length MT]) 160 ∧ MR.counts_.length = 16 ∧ xj 3 (ci .i64) 1 MS MR.symbols_ MT MV
theorem Uj {H : xT} {F : List qk} {w : World} {R : Ending → World → Prop} {kr : ((Option qH) × Int) → Prop} {kp : Value → Prop} (hG : Gl H) (K : Nat) (MR : List Int) (MW : Option Addr) (MX : Nat) (M0 : jT H [] F (ci .i64) MW MR) (Nj : MR.length ≤ MX)
    (hS : St w H [] F) (hm : (xN.m K MR).wp kr kp)
    (hret : ∀ (Nm : Option Addr) (ND : Option qH) (Np : qk) (NE : Int) (w : World), kr (ND, NE) → (KZ qH.Own Nm ND Np) → St w H [Np] F → R (.returned (.tuple ⟨[.pointer Nm, .int .i64 NE]⟩)) w) :
    Calls Tryd.prog 91 ⟨[.slice MW MR.length MX]⟩ w R := by
 refine enter Tryd.func91 rfl Tryd.ntmps91 rfl hS fun a w hS => ?_
 have hM := hm; clear hm
 rw [xN.m] at hM
 refine qm <| sA hS rfl fun hS => sA hS rfl fun hS => qA <| wp_seq <| qm <| sM hS rfl fun hS => qJ hS rfl Tryd.call69 (Zk hG K MR MW MX (M0.app _) Nj (hS.st.part 0 [] (by kernel_rfl)) (qt hM) (fun NL w hM  hst => qz hS.ev hst.appF rfl fun hS => ?_))
 replace hS : Ss _ _ _ H [] F _ _ := hS
 refine sA hS rfl fun hS => qA <| qm <| sM hS rfl fun hS => sB hS rfl fun hS => qA <| qF hS rfl hM (fun Nw hM => ?_) (fun Nw hM => ?_)
 ·refine wp_seq ?_
  refine zP <| sM hS rfl fun hS => sA hS rfl fun hS => sA hS rfl fun hS => qA <| wp_ret <| zl ?_
  replace hS := hS.nilF
  exact zD (rs := [2, 3]) hS rfl rfl (hret none none ([] : qk) NL _ (q8 hM) (.inl ⟨rfl, rfl, rfl⟩) (hS.st.pick [0] (by kernel_rfl)))
 ·refine wp_skip ?_
  refine qe <| qm <| sO hS (Xr (((List.replicate 16 (0 : Int)).flatMap (ci .i64)) ++ [.slice none 0 0]) [(0, 16), (16, 1)] Tryd.zeroValue160 Tryd.runUnderlying160 (by intro w; simp [Tryd.sizeOf127, Tryd.sizeOf66]) rfl rfl) rfl fun hS => bx (((List.replicate 16 (0 : Int)).flatMap (ci .i64)) ++ [.slice none 0 0]) hS rfl rfl rfl fun w M3 NI Nq hS => ?_
  obtain ⟨Nn, Nt, hS⟩ := hS.nilV 3 (ci .i64) 1
  refine sA hS rfl fun hS => qA <| qm <| sM hS rfl fun hS => sM hS rfl fun hS => qJ hS rfl Tryd.call70 (uP hG K MR MW MX (M0.app _) Nj (hS.st.part 0 [0, 1] (by kernel_rfl)) (qt hM) (fun MY NS w hM Nf hst => qz hS.ev hst.appF rfl fun hS => ?_))
  replace hS : Ss _ _ _ H [Nn, NI] F _ _ := hS
  refine sM hS rfl fun hS => sO hS (ex rfl rfl) rfl fun hS => sO hS (ex rfl rfl) rfl fun hS => sO hS (yy rfl) rfl fun hS => sO hS (xv rfl Tryd.runUnderlying160 rfl Tryd.sizeOf127 rfl) rfl fun hS => YI (xs := (List.replicate 16 (0 : Int))) (ys := MY) (g := (ci .i64)) (pre := []) (post := [.slice none ([] : List Int).length (0)]) 1 hS rfl rfl Nq rfl (by simp) rfl (xf (g := (ci .i64)) (sz := 1) (fun _ => rfl) (List.length_replicate ..)) (xf (g := (ci .i64)) (sz := 1) (fun _ => rfl) Nf) (xJ) Tryd.sizeOf127 fun w No Nc hS => ?_
  replace Nc : xM No M3 ((MY.flatMap (ci .i64)) ++ [.slice none ([] : List Int).length (0)]) 160 := by simpa using Nc
  refine qA <| wp_seq <| qm <| sA hS rfl fun hS => qA <| xS <| zv (fun Nl a w => ∃ (M6 : Option Addr) (M8 : Nat) (MS : (List Int)) (M4 : qk) (M5 : qk) (MU : Int), Ss 50 [] [(0, .slice MW MR.length MX), (5, qL M3 0), (6, .int .i64 MU)] H [M5, M4] F a w ∧ (xj 3 (ci .i64) 1 M6 MS M8 M4) ∧ (xM M5 M3 ((MY.flatMap (ci .i64)) ++ [.slice M6 MS.length M8]) 160) ∧ (xN.l1 K MR MY Nl MS MU).wp kr kp) K ?_ ?_ ?_
  ·exact ⟨none, 0, ([] : List Int), Nn, No, (1 : Int), hS.to [1, 0] (by kernel_rfl) ⟨rfl, rfl, rfl, trivial⟩, Nt, Nc, hM⟩
  ·intro a w hI; obtain ⟨_, _, _, _, _, _, _, _, _, hM⟩ := hI; exact zt hM
  ·intro Nl a w hI NP Ns
   obtain ⟨M6, M8, MS, M4, M5, MU, hS, Ni, Ng, hM⟩ := hI
   rw [xN.l1] at hM
   refine wp_seq <| qm <| sM hS rfl fun hS => sB hS rfl fun hS => qA <| qF hS rfl hM (fun Nx hM => ?_) (fun Nx hM => ?_)
   ·refine wp_skip ?_
    refine qe <| wp_seq <| xS <| qm <| sM hS rfl fun hS => sO hS (yk rfl Tryd.runUnderlying66) rfl fun hS => sM hS rfl fun hS => qA <| xS <| zv (fun NB a w => ∃ (M7 : Option Addr) (M9 : Nat) (MT : (List Int)) (Na : qk) (Nb : qk) (MV : Int), Ss 50 [] [(0, .slice MW MR.length MX), (5, qL M3 0), (6, .int .i64 MU), (28, .slice MW MR.length MX), (29, .int .i64 (MR.length : Int)), (30, .int .i64 MV)] H [Nb, Na] F a w ∧ (xj 3 (ci .i64) 1 M7 MT M9 Na) ∧ (xM Nb M3 ((MY.flatMap (ci .i64)) ++ [.slice M7 MT.length M9]) 160) ∧ (xN.l2 K (xN.l1 K MR MY Nl) MR MU NB MT MV).wp kr kp) K ?_ ?_ ?_
    ·exact ⟨M6, M8, MS, M4, M5, (0 : Int), hS.to [0, 1] (by kernel_rfl) ⟨rfl, rfl, rfl, rfl, rfl, rfl, trivial⟩, Ni, Ng, hM⟩
    ·intro a w hI; obtain ⟨_, _, _, _, _, _, _, _, _, hM⟩ := hI; exact zt hM
    ·intro NB a w hI NO Nh
     obtain ⟨M7, M9, MT, Na, Nb, MV, hS, Nd, MZ, hM⟩ := hI
     rw [xN.l2] at hM
     refine qm <| sB hS rfl fun hS => qA <| wp_seq <| qF hS rfl hM (fun Ny hM => ?_) (fun Ny hM => ?_)
     ·refine wp_skip ?_
      refine qe <| wp_seq <| xS <| qm <| sM hS rfl fun hS => ?_
      obtain ⟨Nk, hM⟩ := qK hM
      refine sO hS (yv rfl rfl Tryd.runUnderlying66 Tryd.sizeOf3 M0.wk (fun _ => rfl) rfl Nk) rfl fun hS => sO hS (yG rfl M0.wk (fun _ => rfl) Nk rfl Tryd.isAgg3) rfl fun hS => sA hS rfl fun hS => zG (v := Value.int .i64) (x0 := (rd MR MV)) hS (xD rfl) rfl fun NM a w hz hS => ?_
      have hM := qB hz hM; clear hz
      refine qA <| qm <| sM hS rfl fun hS => sM hS rfl fun hS => sB hS rfl fun hS => qA <| qF hS rfl hM (fun Nz hM => ?_) (fun Nz hM => ?_)
      ·refine zP ?_
       refine sM hS rfl fun hS => sM hS rfl fun hS => sO hS (yy rfl) rfl fun hS => sO hS (xv rfl Tryd.runUnderlying160 rfl Tryd.sizeOf66 rfl) rfl fun hS => sO hS (Md 0 rfl MZ rfl (by rfl) (xf (g := (ci .i64)) (sz := 1) (fun _ => rfl) Nf) Tryd.isAgg66) rfl fun hS => sM hS rfl fun hS => J2 (g := (ci .i64)) ([MV] : List Int) [.int .i64 MV] hS Tryd.runUnderlying66 Tryd.sizeOf3 X.el3 rfl rfl rfl (by simp [Value.cells]) rfl rfl rfl rfl rfl fun w NN NQ NR Nu hS => ?_
       obtain ⟨NA, hM⟩ := qK hM
       refine J1 (ys := ([MV] : List Int)) 2 hS rfl rfl Nd rfl (Nu.rd (i := 0) rfl) Tryd.runUnderlying66 Tryd.runUnderlying66 X.el3 (fun _ => rfl) rfl xJ NA rfl fun NF w NG NH NJ hz Nv hS => ?_
       have hM := qB hz hM; clear hz
       refine sO hS (yy rfl) rfl fun hS => sO hS (xv rfl Tryd.runUnderlying160 rfl Tryd.sizeOf66 rfl) rfl fun hS => MN 1 hS rfl rfl MZ rfl rfl (xf (g := (ci .i64)) (sz := 1) (fun _ => rfl) Nf) rfl Tryd.sizeOf66 fun w NK Nr hS => zn <| zy (qe ?_)
       refine zP <| sB hS rfl fun hS => sM hS rfl fun hS => zn <| qe ?_
       exact Nh _ _ ⟨NG, NH, NF, NJ, NK, (qh (MV + (1 : Int))), hS.to [1, 2] (by kernel_rfl) ⟨rfl, rfl, rfl, rfl, rfl, rfl, trivial⟩, Nv, Nr, hM⟩
      ·refine wp_skip ?_
       refine zy (qe ?_)
       refine zP <| sB hS rfl fun hS => sM hS rfl fun hS => zn <| qe ?_
       exact Nh _ _ ⟨M7, M9, MT, Na, Nb, (qh (MV + (1 : Int))), hS.to [0, 1] (by kernel_rfl) ⟨rfl, rfl, rfl, rfl, rfl, rfl, trivial⟩, Nd, MZ, hM⟩
     ·refine wp_exit ?_
      refine qE (qE (zd (zy (qe ?_))))
      refine zP <| sM hS rfl fun hS => sB hS rfl fun hS => zG (v := Value.int .i64) (x0 := (qh (MU + (1 : Int)))) hS (xD rfl) rfl fun NC a w hz hS => ?_
      have hM := qB hz hM; clear hz
      refine zn <| qe ?_
      exact Ns _ _ ⟨M7, M9, MT, Na, Nb, NC, hS.to [0, 1] (by kernel_rfl) ⟨rfl, rfl, rfl, trivial⟩, Nd, MZ, hM⟩
   ·refine wp_exit ?_
    refine qE (qE (zd (qe ?_)))
    refine qm <| sM hS rfl fun hS => sA hS rfl fun hS => sA hS rfl fun hS => qA <| wp_ret ?_
    replace hS := hS.front [0, 1] (by kernel_rfl)
    replace hS := hS.joinF
    exact zD (rs := [2, 3]) hS rfl rfl (hret (some ⟨M3, 0, none⟩) (some (qH.mk MY MS)) (M5 ++ M4) (0 : Int) _ (q8 hM) (.inr ⟨_, _, rfl, rfl, M5, M6, M8, M4, rfl, Ng, Nf, Ni⟩) (hS.st.pick [0] (by kernel_rfl)))
theorem y5 {H : xT} {F : List qk} {w : World} {R : Ending → World → Prop} {kr : (Option qH) → Prop} {kp : Value → Prop} (hG : Gl H) (K : Nat) (MR : List Int) (MS : Option Addr) (MT : Nat) (MY : jT H [] F (ci .i64) MS MR) (MX : MR.length ≤ MT)
    (hS : St w H [] F) (hm : (yh.m K MR).wp kr kp)
    (hret : ∀ (MV : Option Addr) (MZ : Option qH) (MW : qk) (w : World), kr MZ → (KZ qH.Own MV MZ MW) → St w H [MW] F → R (.returned (.pointer MV)) w)
    (hpan : ∀ v w, kp v → St w H [] F → R (.panicked [⟨v, false, false⟩]) w) :
    Calls Tryd.prog 83 ⟨[.slice MS MR.length MT]⟩ w R := by
 refine enter Tryd.func83 rfl Tryd.ntmps83 rfl hS fun a w hS => ?_
 have hM := hm; clear hm
 rw [yh.m] at hM
 refine qm <| sA hS rfl fun hS => qA <| qm <| sM hS rfl fun hS => qJ hS rfl Tryd.call91 (Uj hG K MR MS MT (MY.app _) MX (hS.st.part 0 [] (by kernel_rfl)) (qt hM) (fun M0 M4 MU M5 w hM M3 hst => qz hS.ev hst.appF rfl fun hS => ?_))
 replace hS : Ss _ _ _ H [MU] F _ _ := hS
 refine sM hS rfl fun hS => sO hS (ex rfl rfl) rfl fun hS => sO hS (ex rfl rfl) rfl fun hS => sA hS rfl fun hS => sA hS rfl fun hS => qA <| qm <| sM hS rfl fun hS => sB hS rfl fun hS => qJ hS rfl Tryd.call65 (xb hG K (M5 != (0 : Int)) (3 : Int) (hS.st.part 0 [0] (by kernel_rfl)) (qt hM) (fun  w hM  hst => qz hS.ev hst.appF rfl fun hS => ?_) (fun v w hk hst => xo (qD (⟨hS.ev.defs, hpan _ _ hk hst.appF.frame⟩))))
 replace hS : Ss _ _ _ H [MU] F _ _ := hS
 refine qA <| qm <| sM hS rfl fun hS => sA hS rfl fun hS => qA <| wp_ret ?_
 exact zD (rs := [2]) hS rfl rfl (hret M0 M4 MU _ (q8 hM) M3 (hS.st.pick [0] (by kernel_rfl)))
theorem Xp {H : xT} {F : List qk} {w : World} {R : Ending → World → Prop} {kr : ((Option qH) × (Option qH)) → Prop} {kp : Value → Prop} (hG : Gl H) (K : Nat)
    (hS : St w H [] F) (hm : (zr.m K).wp kr kp)
    (hret : ∀ (Nx : Option Addr) (NV : Option qH) (NE : qk) (Ny : Option Addr) (NW : Option qH) (NF : qk) (w : World), kr (NV, NW) → (KZ qH.Own Nx NV NE) → (KZ qH.Own Ny NW NF) → St w H [NE, NF] F → R (.returned (.tuple ⟨[.pointer Nx, .pointer Ny]⟩)) w)
    (hpan : ∀ v w, kp v → St w H [] F → R (.panicked [⟨v, false, false⟩]) w) :
    Calls Tryd.prog 63 ⟨[]⟩ w R := by
 refine enter Tryd.func63 rfl Tryd.ntmps63 rfl hS fun a w hS => ?_
 have hM := hm; clear hm
 rw [zr.m] at hM
 refine qm <| sA hS rfl fun hS => sA hS rfl fun hS => qA <| qm <| QF ((List.replicate 288 (0 : Int)).flatMap (ci .i64)) hS Tryd.zeroValue145 (by kernel_rfl) rfl fun w MS NX NG hS => qA <| zm (fun a w => ∃ (MR : (List Int)) (MZ : qk), Ss 38 [] [(2, qL MS 0)] H [MZ] F a w ∧ (MR.length = 288) ∧ (xM MZ MS (MR.flatMap (ci .i64)) 145) ∧ (zr.j3 K MR).wp kr kp) (fun N5 NK => ?_) ?_
 ·refine wp_seq ?_
  refine zP <| sM hS rfl fun hS => qA <| xS <| zv (fun Nw a w => ∃ (MW : (List Int)) (Nk : qk) (MT : Int), Ss 38 [] [(2, qL MS 0), (6, .int .i64 MT)] H [Nk] F a w ∧ (MW.length = 288) ∧ (xM Nk MS (MW.flatMap (ci .i64)) 145) ∧ (zr.l1 K Nw MW MT).wp kr kp) K ?_ ?_ ?_
  ·exact ⟨(List.replicate 288 (0 : Int)), NX, (0 : Int), hS.to [0] (by kernel_rfl) ⟨rfl, rfl, trivial⟩, (List.length_replicate ..), NG, hM⟩
  ·intro a w hI; obtain ⟨_, _, _, _, _, _, hM⟩ := hI; exact zt hM
  ·intro Nw a w hI N4 Ns
   obtain ⟨MW, Nk, MT, hS, Na, No, hM⟩ := hI
   rw [zr.l1] at hM
   refine qm <| sB hS rfl fun hS => qA <| wp_seq <| qF hS rfl hM (fun NN hM => ?_) (fun NN hM => ?_)
   ·refine wp_skip ?_
    refine qe <| wp_seq <| xS <| qm <| sM hS rfl fun hS => sA hS rfl fun hS => qA <| qm <| sM hS rfl fun hS => ?_
    obtain ⟨MV, hM⟩ := qK hM
    refine sO hS (V5 rfl rfl Tryd.runUnderlying145 Tryd.sizeOf3 MV) rfl fun hS => Gp (xs := MW) (g := (ci .i64)) (pre := []) (post := []) 0 ((8 : Int)) hS rfl rfl No rfl (by simp) rfl (fun _ => rfl) (y9 Na MV) rfl Tryd.sizeOf3 (xJ _) fun M3 w Nz hz M0 hS => ?_
    have Nb : M3.length = 288 := by rw [hz, List.length_set]; exact Na
    have hM := qB hz hM; clear hz
    replace M0 : xM Nz MS (M3.flatMap (ci .i64)) 145 := by simpa using M0
    refine qA <| zm (fun a w => ∃ (MX : (List Int)) (Nl : qk), Ss 38 [] [(2, qL MS 0), (3, .int .i64 MT), (6, .int .i64 MT)] H [Nl] F a w ∧ (MX.length = 288) ∧ (xM Nl MS (MX.flatMap (ci .i64)) 145) ∧ (zr.j2 K (zr.l1 K Nw) MT MX).wp kr kp) (fun N3 Nr => ?_) ?_
    ·refine wp_seq ?_
     refine zP <| sM hS rfl fun hS => sB hS rfl fun hS => sM hS rfl fun hS => yJ 2 true 13 (b := (decide (MT ≥ (144 : Int)))) (r := (decide (MT < (256 : Int)))) hS rfl rfl rfl rfl rfl rfl rfl (fun hb a w hS K hK => ?_) rfl fun a w hS => ?_
     ·refine zW hS rfl rfl rfl hb (mv rfl) rfl fun a w hS => ?_
      refine zW hS rfl rfl rfl hb (js rfl rfl rfl) rfl fun a w hS => ?_
      exact zn (hK _ _ (hS.up 2 rfl rfl))
     refine qA <| qF hS rfl hM (fun NO hM => ?_) (fun NO hM => ?_)
     ·refine zP ?_
      refine sM hS rfl fun hS => sO hS (V5 rfl rfl Tryd.runUnderlying145 Tryd.sizeOf3 MV) rfl fun hS => Gp (xs := M3) (g := (ci .i64)) (pre := []) (post := []) 0 ((9 : Int)) hS rfl rfl M0 rfl (by simp) rfl (fun _ => rfl) (y9 Nb MV) rfl Tryd.sizeOf3 (xJ _) fun Ng w NA hz M7 hS => ?_
      have NR : Ng.length = 288 := by rw [hz, List.length_set]; exact Nb
      have hM := qB hz hM; clear hz
      replace M7 : xM NA MS (Ng.flatMap (ci .i64)) 145 := by simpa using M7
      refine zn <| qe ?_
      exact Nr _ _ ⟨Ng, NA, hS.to [0] (by kernel_rfl) ⟨rfl, rfl, rfl, trivial⟩, NR, M7, hM⟩
     ·refine wp_skip ?_
      refine qe ?_
      exact Nr _ _ ⟨M3, Nz, hS.to [0] (by kernel_rfl) ⟨rfl, rfl, rfl, trivial⟩, Nb, M0, hM⟩
    ·intro a w hI
     obtain ⟨MX, Nl, hS, Nc, Np, hM⟩ := hI
     rw [zr.j2] at hM
     refine qm <| sM hS rfl fun hS => sB hS rfl fun hS => sM hS rfl fun hS => yJ 2 true 21 (b := (decide (MT ≥ (256 : Int)))) (r := (decide (MT < (280 : Int)))) hS rfl rfl rfl rfl rfl rfl rfl (fun hb a w hS K hK => ?_) rfl fun a w hS => ?_
     ·refine zW hS rfl rfl rfl hb (mv rfl) rfl fun a w hS => ?_
      refine zW hS rfl rfl rfl hb (js rfl rfl rfl) rfl fun a w hS => ?_
      exact zn (hK _ _ (hS.up 2 rfl rfl))
     refine qA <| qF hS rfl hM (fun NP hM => ?_) (fun NP hM => ?_)
     ·refine zP ?_
      refine sM hS rfl fun hS => sO hS (V5 rfl rfl Tryd.runUnderlying145 Tryd.sizeOf3 MV) rfl fun hS => Gp (xs := MX) (g := (ci .i64)) (pre := []) (post := []) 0 ((7 : Int)) hS rfl rfl Np rfl (by simp) rfl (fun _ => rfl) (y9 Nc MV) rfl Tryd.sizeOf3 (xJ _) fun Nh w NB hz M8 hS => ?_
      have NS : Nh.length = 288 := by rw [hz, List.length_set]; exact Nc
      have hM := qB hz hM; clear hz
      replace M8 : xM NB MS (Nh.flatMap (ci .i64)) 145 := by simpa using M8
      refine zn <| zy (qe ?_)
      refine zP <| sB hS rfl fun hS => sM hS rfl fun hS => zn <| qe ?_
      exact Ns _ _ ⟨Nh, NB, (qh (MT + (1 : Int))), hS.to [0] (by kernel_rfl) ⟨rfl, rfl, trivial⟩, NS, M8, hM⟩
     ·refine wp_skip ?_
      refine zy (qe ?_)
      refine zP <| sB hS rfl fun hS => sM hS rfl fun hS => zn <| qe ?_
      exact Ns _ _ ⟨MX, Nl, (qh (MT + (1 : Int))), hS.to [0] (by kernel_rfl) ⟨rfl, rfl, trivial⟩, Nc, Np, hM⟩
   ·refine wp_exit ?_
    refine qE (qE (zd (qe ?_)))
    exact NK _ _ ⟨MW, Nk, hS.to [0] (by kernel_rfl) ⟨rfl, trivial⟩, Na, No, hM⟩
 ·intro a w hI
  obtain ⟨MR, MZ, hS, Nu, NH, hM⟩ := hI
  rw [zr.j3] at hM
  refine qm <| QF ((List.replicate 32 (0 : Int)).flatMap (ci .i64)) hS Tryd.zeroValue146 rfl rfl fun w MU NY NI hS => qA <| zm (fun a w => ∃ (MY : (List Int)) (M6 : qk), Ss 38 [] [(2, qL MS 0), (4, qL MU 0)] H [MZ, M6] F a w ∧ (MY.length = 32) ∧ (xM M6 MU (MY.flatMap (ci .i64)) 146) ∧ (zr.j5 K MR MY).wp kr kp) (fun N7 NM => ?_) ?_
  ·refine wp_seq ?_
   refine zP <| sM hS rfl fun hS => qA <| xS <| zv (fun NU a w => ∃ (M4 : (List Int)) (Nm : qk) (Nn : Int), Ss 38 [] [(2, qL MS 0), (4, qL MU 0), (28, .int .i64 Nn)] H [MZ, Nm] F a w ∧ (M4.length = 32) ∧ (xM Nm MU (M4.flatMap (ci .i64)) 146) ∧ (zr.l4 K MR NU M4 Nn).wp kr kp) K ?_ ?_ ?_
   ·exact ⟨(List.replicate 32 (0 : Int)), NY, (0 : Int), hS.to [1, 0] (by kernel_rfl) ⟨rfl, rfl, rfl, trivial⟩, (List.length_replicate ..), NI, hM⟩
   ·intro a w hI; obtain ⟨_, _, _, _, _, _, hM⟩ := hI; exact zt hM
   ·intro NU a w hI N6 NL
    obtain ⟨M4, Nm, Nn, hS, Nd, Nq, hM⟩ := hI
    rw [zr.l4] at hM
    refine qm <| sB hS rfl fun hS => qA <| wp_seq <| qF hS rfl hM (fun NQ hM => ?_) (fun NQ hM => ?_)
    ·refine wp_skip ?_
     refine qe <| wp_seq <| xS <| qm <| sM hS rfl fun hS => sA hS rfl fun hS => qA <| zP <| sM hS rfl fun hS => ?_
     obtain ⟨Nt, hM⟩ := qK hM
     refine sO hS (V5 rfl rfl Tryd.runUnderlying146 Tryd.sizeOf3 Nt) rfl fun hS => Gp (xs := M4) (g := (ci .i64)) (pre := []) (post := []) 1 ((5 : Int)) hS rfl rfl Nq rfl (by simp) rfl (fun _ => rfl) (y9 Nd Nt) rfl Tryd.sizeOf3 (xJ _) fun Ni w NC hz M9 hS => ?_
     have NT : Ni.length = 32 := by rw [hz, List.length_set]; exact Nd
     have hM := qB hz hM; clear hz
     replace M9 : xM NC MU (Ni.flatMap (ci .i64)) 146 := by simpa using M9
     refine zn <| zy (qe ?_)
     refine zP <| sB hS rfl fun hS => sM hS rfl fun hS => zn <| qe ?_
     exact NL _ _ ⟨Ni, NC, (qh (Nn + (1 : Int))), hS.to [0, 1] (by kernel_rfl) ⟨rfl, rfl, rfl, trivial⟩, NT, M9, hM⟩
    ·refine wp_exit ?_
     refine qE (qE (zd (qe ?_)))
     exact NM _ _ ⟨M4, Nm, hS.to [0, 1] (by kernel_rfl) ⟨rfl, rfl, trivial⟩, Nd, Nq, hM⟩
  ·intro a w hI
   obtain ⟨MY, M6, hS, Nf, NJ, hM⟩ := hI
   rw [zr.j5] at hM
   refine wp_seq <| za (vals := [some (.slice (some ⟨MS, 0, none⟩) MR.length (288)), none, some (.slice (some ⟨MU, 0, none⟩) MY.length (32)), none, none, none]) hS xG rfl ?_
   intro l w ho hcl hA hst
   refine jg hA hst ho hcl xx xH 1 [0, 2] rfl rfl rfl rfl rfl (by exact ⟨nQ rfl (by exact qW (L0 rfl Tryd.runUnderlying145 Tryd.sizeOf3 Nu rfl) rfl), nQ rfl (by exact qW (L0 rfl Tryd.runUnderlying146 Tryd.sizeOf3 Nf rfl) rfl), trivial⟩) fun D l a w ho hcl hav hpre hm hE hk hA hst => ?_
   have hS := (Ss.mk hE hst).env2 (e' := [(34, .slice (some ⟨MS, 0, none⟩) MR.length (288))]) ⟨rfl, trivial⟩
   refine qQ rfl <| qJ hS rfl Tryd.call83 (y5 hG K MR (some ⟨MS, 0, none⟩) (288) (NH.rdF (i := 0) rfl rfl) (Nat.le_of_eq Nu) (hS.st.part 0 [0, 1] (by kernel_rfl)) (qt hM) (fun M5 N1 Nv w hM NZ hst => qz hS.ev hst.appF rfl fun hS => ?_) (fun v w hk hst => xo (qD (qD (⟨hS.ev.defs, hpan _ _ hk hst.appF.frame⟩)))))
   replace hS : Ss _ _ _ H [Nv, MZ, M6] F _ _ := hS
   refine qA ?_
   replace hst := hS.st
   obtain ⟨hcl, hmust, hav2, hA⟩ := dn (vals' := [some (.slice (some ⟨MS, 0, none⟩) MR.length (288)), some (.pointer M5), some (.slice (some ⟨MU, 0, none⟩) MY.length (32)), none, none, none]) 1 [(0, 1)] hA hcl hav hm hpre hk rfl rfl rfl rfl rfl rfl rfl
   clear hm hav
   refine jg hA hst ho hcl hav2 hmust 3 [2] rfl rfl rfl rfl rfl (by exact ⟨nQ rfl (by exact qW (L0 rfl Tryd.runUnderlying146 Tryd.sizeOf3 Nf rfl) rfl), trivial⟩) fun D l a w ho hcl hav hpre hm hE hk hA hst => ?_
   have hS := (Ss.mk hE hst).env2 (e' := [(36, .slice (some ⟨MU, 0, none⟩) MY.length (32))]) ⟨rfl, trivial⟩
   refine qQ rfl <| qJ hS rfl Tryd.call83 (y5 hG K MY (some ⟨MU, 0, none⟩) (32) (NJ.rdF (i := 2) rfl rfl) (Nat.le_of_eq Nf) (hS.st.part 0 [0, 1, 2] (by kernel_rfl)) (qt hM) (fun Nj N2 ND w hM N0 hst => qz hS.ev hst.appF rfl fun hS => ?_) (fun v w hk hst => xo (qD (qD (⟨hS.ev.defs, hpan _ _ hk hst.appF.frame⟩)))))
   replace hS : Ss _ _ _ H [ND, Nv, MZ, M6] F _ _ := hS
   refine qA ?_
   replace hst := hS.st
   obtain ⟨hcl, hmust, hav2, hA⟩ := dn (vals' := [some (.slice (some ⟨MS, 0, none⟩) MR.length (288)), some (.pointer M5), some (.slice (some ⟨MU, 0, none⟩) MY.length (32)), some (.pointer Nj), some (.pointer M5), some (.pointer Nj)]) 3 [(1, 3), (2, 3), (0, 1)] hA hcl hav hm hpre hk rfl rfl rfl rfl rfl rfl rfl
   clear hm hav
   refine ym hA hst ho hcl hmust [4, 5] rfl rfl rfl (by exact ⟨nA rfl, nA rfl, trivial⟩) fun a w hS => ?_
   replace hS := hS.env2 (e' := [(0, .pointer M5), (1, .pointer Nj)]) ⟨rfl, rfl, trivial⟩
   refine qe <| wp_ret ?_
   exact zD (rs := [0, 1]) hS rfl rfl (hret M5 N1 Nv Nj N2 ND _ (q8 hM) NZ N0 (hS.st.pick [1, 0] (by kernel_rfl)))
theorem Zl {H : xT} {F : List qk} {w : World} {R : Ending → World → Prop} {kr : (Int × Int × Int) → Prop} {kp : Value → Prop} (hG : Gl H) (K : Nat) (MW : qH) (MR : qG) (Nm : Nat) (M4 : qk) (Nl : Option Addr) (Nn : Nat) (M5 : qk) (MX : Nat) (No : qk) (Nb : xM M4 Nm ((MW.counts_.flatMap (ci .i64)) ++ [.slice Nl MW.symbols_.length Nn]) 160) (Nc : MW.counts_.length = 16) (Nh : xj 3 (ci .i64) 1 Nl MW.symbols_ Nn M5) (Nd : xM No MX ([.int .i64 MR.place_.at_, xi MR.text_]) 118)
    (hS : St w H [M4, M5, No] F) (hm : (z8.m K MW MR).wp kr kp)
    (hret : ∀ (NG : Int) (NH : Int) (M8 : Int) (Nu : qk) (w : World), kr (NG, NH, M8) → (xM Nu MX ([.int .i64 M8, xi MR.text_]) 118) → St w H [Nu, M4, M5] F → R (.returned (.tuple ⟨[.int .i64 NG, .int .i64 NH]⟩)) w) :
    Calls Tryd.prog 90 ⟨[qL Nm 0, qL MX 0]⟩ w R := by
 refine enter Tryd.func90 rfl Tryd.ntmps90 rfl hS fun a w hS => ?_
 have hM := hm; clear hm
 rw [z8.m] at hM
 refine qm <| sA hS rfl fun hS => sA hS rfl fun hS => qA <| wp_seq <| qm <| sM hS rfl fun hS => sO hS (XR rfl rfl Tryd.runUnderlying120) rfl fun hS => sM hS rfl fun hS => zW hS rfl rfl rfl rfl (mv rfl) rfl fun a w hS => zW hS rfl rfl rfl rfl (XR rfl rfl Tryd.runUnderlying94) rfl fun a w hS => sO hS (pk rfl rfl rfl) rfl fun hS => qA <| XC hS rfl <| wp_skip <| qe <| qm <| sM hS rfl fun hS => sO hS (yy rfl) rfl fun hS => sO hS (uS 2 rfl Nd rfl ([.int .i64 MR.place_.at_, xi MR.text_]) rfl rfl Tryd.isAgg118 Tryd.sizeOf118) rfl fun hS => QF ([.int .i64 (0 : Int), xi ([] : List UInt8)]) hS Tryd.zeroValue118 rfl rfl fun w Nt NP Nv hS => QU 0 ([.int .i64 MR.place_.at_, xi MR.text_]) ([.int .i64 MR.place_.at_, xi MR.text_]) hS rfl rfl Nv rfl rfl Tryd.sizeOf118 (by simp [Value.oneCell']) (Nat.le_of_ble_eq_true rfl) rfl fun w Np Nf hS => qA <| qm <| sA hS rfl fun hS => sA hS rfl fun hS => sA hS rfl fun hS => qA <| zm (fun a w => ∃ (M0 : Int) (Nr : qk), Ss 81 [] [(1, qL MX 0), (6, qL Nt 0)] H [Nr, M4, M5, Np] F a w ∧ (xM Nr MX ([.int .i64 M0, xi MR.text_]) 118) ∧ (z8.j2 K MR M0).wp kr kp) (fun NO NA => ?_) ?_
 ·refine wp_seq ?_
  refine zP <| sA hS rfl fun hS => qA <| xS <| zv (fun NE a w => ∃ (MV : Int) (M9 : qk) (MU : Int) (MT : Int) (MS : Int) (MZ : Int), Ss 81 [] [(0, qL Nm 0), (1, qL MX 0), (6, qL Nt 0), (7, .int .i64 MU), (8, .int .i64 MT), (9, .int .i64 MS), (10, .int .i64 MZ)] H [M9, M4, M5, Np] F a w ∧ (xM M9 MX ([.int .i64 MV, xi MR.text_]) 118) ∧ (z8.l1 K MW MR NE MV MU MT MS MZ).wp kr kp) K ?_ ?_ ?_
  ·exact ⟨MR.place_.at_, No, (0 : Int), (0 : Int), (0 : Int), (1 : Int), hS.to [3, 1, 2, 0] (by kernel_rfl) ⟨rfl, rfl, rfl, rfl, rfl, rfl, rfl, trivial⟩, Nd, hM⟩
  ·intro a w hI; obtain ⟨_, _, _, _, _, _, _, _, hM⟩ := hI; exact zt hM
  ·intro NE a w hI NN Nz
   obtain ⟨MV, M9, MU, MT, MS, MZ, hS, Ng, hM⟩ := hI
   rw [z8.l1] at hM
   refine wp_seq <| qm <| sM hS rfl fun hS => sM hS rfl fun hS => sO hS (yy rfl) rfl fun hS => sO hS (xv rfl Tryd.runUnderlying160 rfl Tryd.sizeOf66 rfl) rfl fun hS => sO hS (Md 1 rfl Nb rfl (by rfl) (xf (g := (ci .i64)) (sz := 1) (fun _ => rfl) Nc) Tryd.isAgg66) rfl fun hS => sO hS (yk rfl Tryd.runUnderlying66) rfl fun hS => sB hS rfl fun hS => qA <| qF hS rfl hM (fun NB hM => ?_) (fun NB hM => ?_)
   ·refine wp_skip ?_
    refine qe <| wp_seq <| xS <| qm <| sM hS rfl fun hS => qJ hS rfl Tryd.call78 (vH hG K (qG.mk (qr.mk MV) MR.text_) (1 : Int) MX M9 Ng (hS.st.part 1 [0, 1, 2, 3] (by kernel_rfl)) (qt hM) (fun NL NM M7 Nq w hM Ns hst => qz hS.ev hst.appF rfl fun hS => ?_))
    replace hS : Ss _ _ _ H [Nq, M4, M5, Np] F _ _ := hS
    refine sM hS rfl fun hS => sO hS (ex rfl rfl) rfl fun hS => sO hS (ex rfl rfl) rfl fun hS => sA hS rfl fun hS => sA hS rfl fun hS => qA <| wp_seq <| qm <| sM hS rfl fun hS => sB hS rfl fun hS => qA <| qF hS rfl hM (fun NC hM => ?_) (fun NC hM => ?_)
    ·refine wp_seq ?_
     refine zP <| sM hS rfl fun hS => sO hS (uS 3 rfl Nf rfl ([.int .i64 MR.place_.at_, xi MR.text_]) rfl rfl Tryd.isAgg118 Tryd.sizeOf118) rfl fun hS => sO hS (yy rfl) rfl fun hS => QU 0 ([.int .i64 MR.place_.at_, xi MR.text_]) ([.int .i64 MR.place_.at_, xi MR.text_]) hS rfl rfl Ns rfl rfl Tryd.sizeOf118 (by simp [Value.oneCell']) (Nat.le_of_ble_eq_true rfl) rfl fun w NI Nw hS => qA <| qm <| sM hS rfl fun hS => sA hS rfl fun hS => sA hS rfl fun hS => qA <| wp_ret <| zl (x6 (zl (zl (x6 (zl ?_)))))
     exact zD (rs := [4, 5]) hS rfl rfl (hret (0 : Int) NM MR.place_.at_ NI _ (q8 hM) Nw (hS.st.pick [0, 1, 2] (by kernel_rfl)))
    ·refine wp_skip ?_
     refine qe <| qm <| sM hS rfl fun hS => sO hS (shl rfl rfl rfl) rfl fun hS => sM hS rfl fun hS => sO hS (u7 rfl Tryd.runUnderlying25 Tryd.runUnderlying3) rfl fun hS => sB hS rfl fun hS => zG (v := Value.int .i64) (x0 := (QP .i64 (z7 .i64 MU (1 : Int)) (wr .i64 NL))) hS (xD rfl) rfl fun M3 a w hz hS => ?_
     have hM := qB hz hM; clear hz
     refine qA <| qm <| sM hS rfl fun hS => sO hS (shl rfl rfl rfl) rfl fun hS => zG (v := Value.int .i64) (x0 := (z7 .i64 MT (1 : Int))) hS (xD rfl) rfl fun MY a w hz hS => ?_
     have hM := qB hz hM; clear hz
     refine qA <| qm <| sM hS rfl fun hS => sM hS rfl fun hS => sO hS (yy rfl) rfl fun hS => sO hS (xv rfl Tryd.runUnderlying160 rfl Tryd.sizeOf127 rfl) rfl fun hS => ?_
     obtain ⟨Ni, hM⟩ := qK hM
     refine sO hS (V5 rfl rfl Tryd.runUnderlying127 Tryd.sizeOf3 Ni) rfl fun hS => sO hS (LG (xs := MW.counts_) (g := (ci .i64)) (pre := []) (post := [.slice Nl MW.symbols_.length Nn]) 1 rfl Nb rfl (by simp) rfl (fun _ => rfl) (y9 Nc Ni) rfl Tryd.isAgg3) rfl fun hS => zG (v := Value.int .i64) (x0 := (rd MW.counts_ MZ)) hS (xD rfl) rfl fun Nk a w hz hS => ?_
     have hM := qB hz hM; clear hz
     refine qA <| wp_seq <| qm <| sM hS rfl fun hS => sM hS rfl fun hS => sB hS rfl fun hS => sM hS rfl fun hS => sB hS rfl fun hS => qA <| qF hS rfl hM (fun ND hM => ?_) (fun ND hM => ?_)
     ·refine wp_seq ?_
      refine zP <| sM hS rfl fun hS => sO hS (yy rfl) rfl fun hS => sO hS (xv rfl Tryd.runUnderlying160 rfl Tryd.sizeOf66 rfl) rfl fun hS => sO hS (Md 1 rfl Nb rfl (by rfl) (xf (g := (ci .i64)) (sz := 1) (fun _ => rfl) Nc) Tryd.isAgg66) rfl fun hS => sM hS rfl fun hS => sM hS rfl fun hS => sB hS rfl fun hS => sM hS rfl fun hS => sB hS rfl fun hS => ?_
      obtain ⟨Nj, hM⟩ := qK hM
      refine sO hS (yv rfl rfl Tryd.runUnderlying66 Tryd.sizeOf3 (Nh.rd (i := 2) rfl) (fun _ => rfl) rfl Nj) rfl fun hS => sO hS (yG rfl (Nh.rd (i := 2) rfl) (fun _ => rfl) Nj rfl Tryd.isAgg3) rfl fun hS => zG (v := Value.int .i64) (x0 := (rd MW.symbols_ (qh ((qh (MS + M3)) - MY)))) hS (xD rfl) rfl fun NK a w hz hS => ?_
      have hM := qB hz hM; clear hz
      refine sA hS rfl fun hS => qA <| wp_ret <| zl (x6 (zl (zl (x6 (zl ?_)))))
      exact zD (rs := [4, 5]) hS rfl rfl (hret NK (0 : Int) M7 Nq _ (q8 hM) Ns (hS.st.pick [0, 1, 2] (by kernel_rfl)))
     ·refine wp_skip ?_
      refine qe <| qm <| sM hS rfl fun hS => sM hS rfl fun hS => sB hS rfl fun hS => zG (v := Value.int .i64) (x0 := (qh (MY + Nk))) hS (xD rfl) rfl fun Na a w hz hS => ?_
      have hM := qB hz hM; clear hz
      refine qA <| zP <| sM hS rfl fun hS => sM hS rfl fun hS => sB hS rfl fun hS => zG (v := Value.int .i64) (x0 := (qh (MS + Nk))) hS (xD rfl) rfl fun M6 a w hz hS => ?_
      have hM := qB hz hM; clear hz
      refine zn <| zy (qe ?_)
      refine zP <| sM hS rfl fun hS => sB hS rfl fun hS => zG (v := Value.int .i64) (x0 := (qh (MZ + (1 : Int)))) hS (xD rfl) rfl fun NF a w hz hS => ?_
      have hM := qB hz hM; clear hz
      refine zn <| qe ?_
      exact Nz _ _ ⟨M7, Nq, M3, Na, M6, NF, hS.to [0, 1, 2, 3] (by kernel_rfl) ⟨rfl, rfl, rfl, rfl, rfl, rfl, rfl, trivial⟩, Ns, hM⟩
   ·refine wp_exit ?_
    refine qE (qE (zd (qe ?_)))
    exact NA _ _ ⟨MV, M9, hS.to [0, 1, 2, 3] (by kernel_rfl) ⟨rfl, rfl, trivial⟩, Ng, hM⟩
 ·intro a w hI
  obtain ⟨M0, Nr, hS, Nx, hM⟩ := hI
  rw [z8.j2] at hM
  refine qm <| sM hS rfl fun hS => sO hS (uS 3 rfl Nf rfl ([.int .i64 MR.place_.at_, xi MR.text_]) rfl rfl Tryd.isAgg118 Tryd.sizeOf118) rfl fun hS => sO hS (yy rfl) rfl fun hS => QU 0 ([.int .i64 MR.place_.at_, xi MR.text_]) ([.int .i64 MR.place_.at_, xi MR.text_]) hS rfl rfl Nx rfl rfl Tryd.sizeOf118 (by simp [Value.oneCell']) (Nat.le_of_ble_eq_true rfl) rfl fun w NJ Ny hS => qA <| qm <| sA hS rfl fun hS => sA hS rfl fun hS => qA <| wp_ret ?_
  exact zD (rs := [4, 5]) hS rfl rfl (hret (0 : Int) (3 : Int) MR.place_.at_ NJ _ (q8 hM) Ny (hS.st.pick [0, 1, 2] (by kernel_rfl)))
theorem yQ {H : xT} {F : List qk} {w : World} {R : Ending → World → Prop} {kr : (Int × Int) → Prop} {kp : Value → Prop} (hG : Gl H) (K : Nat) (MR : qx) (MU : qH) (M8 : Nat) (MW : qk) (MY : Nat) (M5 : qk) (M7 : Option Addr) (M9 : Nat) (MX : qk) (M3 : Nat) (MS : qk) (MZ : Option Addr) (M4 : Nat) (MT : qk) (Nb : xM MW M8 ([qL MY 0, .slice M7 MR.out_.length M9, .int .i64 MR.limit_]) 97) (Nc : xM M5 MY ([.int .i64 MR.Reader_.place_.at_, xi MR.Reader_.text_]) 118) (Nl : xj 5 (ci .u8) 1 M7 MR.out_ M9 MX) (Nd : xM MS M3 ((MU.counts_.flatMap (ci .i64)) ++ [.slice MZ MU.symbols_.length M4]) 160) (Ng : MU.counts_.length = 16) (Nf : xj 3 (ci .i64) 1 MZ MU.symbols_ M4 MT)
    (hS : St w H [MW, M5, MX, MS, MT] F) (hm : (xL.m K MR MU).wp kr kp)
    (hret : ∀ (Nh : Int) (MV : Int) (Na : qk) (w : World), kr (Nh, MV) → (xM Na MY ([.int .i64 MV, xi MR.Reader_.text_]) 118) → St w H [MS, MT, MW, Na, MX] F → R (.returned (.int .i64 Nh)) w)
    (hpan : ∀ v w, kp v → St w H [] F → R (.panicked [⟨v, false, false⟩]) w) :
    Calls Tryd.prog 81 ⟨[qL M8 0, qL M3 0]⟩ w R := by
 refine enter Tryd.func81 rfl Tryd.ntmps81 rfl hS fun a w hS => ?_
 have hM := hm; clear hm
 rw [xL.m] at hM
 refine qm <| sA hS rfl fun hS => qA <| qm <| sM hS rfl fun hS => sM hS rfl fun hS => sO hS (yy rfl) rfl fun hS => sO hS (xv rfl Tryd.runUnderlying97 rfl Tryd.sizeOf94 rfl) rfl fun hS => sO hS (x5 0 rfl Nb rfl rfl Tryd.isAgg94) rfl fun hS => qJ hS rfl Tryd.call90 (Zl hG K MU MR.Reader_ M3 MS MZ M4 MT MY M5 Nd Ng Nf Nc (hS.st.part 3 [3, 4, 1, 0, 2] (by kernel_rfl)) (qt hM) (fun Nj Nk M0 M6 w hM Ni hst => qz hS.ev hst.appF rfl fun hS => ?_))
 replace hS : Ss _ _ _ H [M6, MS, MT, MW, MX] F _ _ := hS
 refine sM hS rfl fun hS => sO hS (ex rfl rfl) rfl fun hS => sO hS (ex rfl rfl) rfl fun hS => sA hS rfl fun hS => sA hS rfl fun hS => qA <| qm <| sM hS rfl fun hS => qJ hS rfl Tryd.call79 (jN hG K Nk (hS.st.part 0 [0, 1, 2, 3, 4] (by kernel_rfl)) (qt hM) (fun  w hM  hst => qz hS.ev hst.appF rfl fun hS => ?_) (fun v w hk hst => xo (qD (⟨hS.ev.defs, hpan _ _ hk hst.appF.frame⟩))))
 replace hS : Ss _ _ _ H [M6, MS, MT, MW, MX] F _ _ := hS
 refine qA <| qm <| sM hS rfl fun hS => sA hS rfl fun hS => qA <| wp_ret ?_
 exact zD (rs := [4]) hS rfl rfl (hret Nj M0 M6 _ (q8 hM) Ni (hS.st.pick [1, 2, 3, 0, 4] (by kernel_rfl)))
theorem vl {H : xT} {F : List qk} {w : World} {R : Ending → World → Prop} {kr : (Int × Int) → Prop} {kp : Value → Prop} (hG : Gl H) (K : Nat) (MS : qx) (MR : xA) (MT : Nat) (MV : qk) (MY : Nat) (M6 : qk) (M3 : Option Addr) (M5 : Nat) (MW : qk) (Nb : xM MV MT ([qL MY 0, .slice M3 MS.out_.length M5, .int .i64 MS.limit_]) 97) (Nc : xM M6 MY ([.int .i64 MS.Reader_.place_.at_, xi MS.Reader_.text_]) 118) (Nd : xj 5 (ci .u8) 1 M3 MS.out_ M5 MW)
    (hS : St w H [MV, M6, MW] F) (hm : (ya.m K MS MR).wp kr kp)
    (hret : ∀ (Nf : Int) (MU : Int) (Na : qk) (w : World), kr (Nf, MU) → (xM Na MY ([.int .i64 MU, xi MS.Reader_.text_]) 118) → St w H [MV, Na, MW] F → R (.returned (.int .i64 Nf)) w)
    (hpan : ∀ v w, kp v → St w H [] F → R (.panicked [⟨v, false, false⟩]) w) :
    Calls Tryd.prog 82 ⟨[qL MT 0, .agg ⟨[.int .i64 MR.from_, .int .i64 MR.bits_]⟩]⟩ w R := by
 refine enter Tryd.func82 rfl Tryd.ntmps82 rfl hS fun a w hS => ?_
 have hM := hm; clear hm
 rw [ya.m] at hM
 refine qm <| bx ([.int .i64 MR.from_, .int .i64 MR.bits_]) hS rfl rfl rfl fun w MZ Ng MX hS => sA hS rfl fun hS => qA <| wp_seq <| za (vals := [some (qL MZ 0), some (.int .i64 MR.from_), some (qL MT 0), some (qL MZ 1), some (.int .i64 MR.bits_), none, none, none]) hS xG rfl ?_
 intro l w ho hcl hA hst
 refine jg hA hst ho hcl xx xH 5 [0, 1, 2, 3, 4] rfl rfl rfl rfl rfl (by exact ⟨nQ rfl (by exact qW (xv rfl Tryd.runUnderlying142 rfl Tryd.sizeOf3 rfl) rfl), nQ rfl (by exact qW (x5 0 rfl MX rfl rfl Tryd.isAgg3) rfl), nM rfl, nQ rfl (by exact qW (xv rfl Tryd.runUnderlying142 rfl Tryd.sizeOf3 rfl) rfl), nQ rfl (by exact qW (x5 0 rfl MX rfl rfl Tryd.isAgg3) rfl), trivial⟩) fun D l a w ho hcl hav hpre hm hE hk hA hst => ?_
 have hS := (Ss.mk hE hst).env2 (e' := [(7, qL MT 0), (9, .int .i64 MR.bits_)]) ⟨rfl, rfl, trivial⟩
 refine qQ rfl <| qJ hS rfl Tryd.call60 (z4 hG K MS MR.bits_ MT MV MY M6 M3 M5 MW Nb Nc Nd (hS.st.part 3 [1, 2, 3, 0] (by kernel_rfl)) (qt hM) (fun M8 M4 M9 w hM Nh hst => qz hS.ev hst.appF rfl fun hS => ?_) (fun v w hk hst => xo (qD (qD (⟨hS.ev.defs, hpan _ _ hk hst.appF.frame⟩)))))
 replace hS : Ss _ _ _ H [MV, M9, MW, Ng] F _ _ := hS
 refine qA ?_
 replace hst := hS.st
 obtain ⟨M7, M0⟩ : ∃ x, x = (qh (MR.from_ + M8)) := ⟨_, rfl⟩
 replace hM := qB M0 hM
 obtain ⟨hcl, hmust, hav2, hA⟩ := dn (vals' := [some (qL MZ 0), some (.int .i64 MR.from_), some (qL MT 0), some (qL MZ 1), some (.int .i64 MR.bits_), some (.int .i64 M8), some (.int .i64 (qh (MR.from_ + M8))), some (.int .i64 M7)]) 5 [(2, 5), (4, 5), (3, 4)] hA hcl hav hm hpre hk rfl rfl rfl rfl rfl rfl rfl
 clear hm hav
 refine ym hA hst ho hcl hmust [0, 1, 6, 7] rfl rfl rfl (by exact ⟨nQ rfl (by exact qW (xv rfl Tryd.runUnderlying142 rfl Tryd.sizeOf3 rfl) rfl), nQ rfl (by exact qW (x5 3 rfl MX rfl rfl Tryd.isAgg3) rfl), nB rfl, nQ rfl (by exact qW (xD rfl) (congrArg (Value.int .i64) M0.symm)), trivial⟩) fun a w hS => ?_
 replace hS := hS.env2 (e' := [(4, .int .i64 M7)]) ⟨rfl, trivial⟩
 refine qe <| wp_ret ?_
 exact zD (rs := [4]) hS rfl rfl (hret M7 M4 M9 _ (q8 hM) Nh (hS.st.pick [0, 1, 2] (by kernel_rfl)))
theorem jx {H : xT} {F : List qk} {w : World} {R : Ending → World → Prop} {kr : (Int × (List Int)) → Prop} {kp : Value → Prop} (hG : Gl H) (K : Nat) (MW : qx) (MV : qH) (MZ : qH) (MS : Nat) (NZ : qk) (Nb : Nat) (N0 : qk) (NT : Option Addr) (NW : Nat) (N1 : qk) (Nn : Nat) (M6 : qk) (NU : Option Addr) (NX : Nat) (M7 : qk) (No : Nat) (M8 : qk) (NV : Option Addr) (NY : Nat) (M9 : qk) (Pn : xM NZ MS ([qL Nb 0, .slice NT MW.out_.length NW, .int .i64 MW.limit_]) 97) (Po : xM N0 Nb ([.int .i64 MW.Reader_.place_.at_, xi MW.Reader_.text_]) 118) (Ps : xj 5 (ci .u8) 1 NT MW.out_ NW N1) (Pp : xM M6 Nn ((MV.counts_.flatMap (ci .i64)) ++ [.slice NU MV.symbols_.length NX]) 160) (Pw : MV.counts_.length = 16) (Pt : xj 3 (ci .i64) 1 NU MV.symbols_ NX M7) (Pq : xM M8 No ((MZ.counts_.flatMap (ci .i64)) ++ [.slice NV MZ.symbols_.length NY]) 160) (Px : MZ.counts_.length = 16) (Pv : xj 3 (ci .i64) 1 NV MZ.symbols_ NY M9)
    (hS : St w H [NZ, N0, N1, M6, M7, M8, M9] F) (hm : (qU.m K MW MV MZ).wp kr kp)
    (hret : ∀ (Nv : Int) (NP : qk) (NL : Option Addr) (NN : Nat) (Nk : (List Int)) (NQ : qk) (NR : qk) (w : World), kr (Nv, Nk) → (xM NP Nb ([.int .i64 Nv, xi MW.Reader_.text_]) 118) → (xj 5 (ci .u8) 1 NL Nk NN NQ) → (xM NR MS ([qL Nb 0, .slice NL Nk.length NN, .int .i64 MW.limit_]) 97) → St w H [M8, M9, M6, M7, NR, NP, NQ] F → R (.returned (.tuple ⟨[]⟩)) w)
    (hpan : ∀ v w, kp v → St w H [] F → R (.panicked [⟨v, false, false⟩]) w) :
    Calls Tryd.prog 62 ⟨[qL MS 0, qL Nn 0, qL No 0]⟩ w R := by
 refine enter Tryd.func62 rfl Tryd.ntmps62 rfl hS fun a w hS => ?_
 have hM := hm; clear hm
 rw [qU.m] at hM
 refine xS <| zv (fun Pe a w => ∃ (Ni : Int) (NJ : qk) (Na : Option Addr) (Nc : Nat) (MT : (List Int)) (M4 : qk) (M5 : qk), Ss 108 [] [(0, qL MS 0), (1, qL Nn 0), (2, qL No 0)] H [M8, M9, M6, M7, M5, NJ, M4] F a w ∧ (xM NJ Nb ([.int .i64 Ni, xi MW.Reader_.text_]) 118) ∧ (xj 5 (ci .u8) 1 Na MT Nc M4) ∧ (xM M5 MS ([qL Nb 0, .slice Na MT.length Nc, .int .i64 MW.limit_]) 97) ∧ (qU.l1 K MW MV MZ Pe Ni MT).wp kr kp) K ?_ ?_ ?_
 ·exact ⟨MW.Reader_.place_.at_, N0, NT, NW, MW.out_, N1, NZ, hS.to [5, 6, 3, 4, 0, 1, 2] (by kernel_rfl) ⟨rfl, rfl, rfl, trivial⟩, Po, Ps, Pn, hM⟩
 ·intro a w hI; obtain ⟨_, _, _, _, _, _, _, _, _, _, _, hM⟩ := hI; exact zt hM
 ·intro Pe a w hI PA NB
  obtain ⟨Ni, NJ, Na, Nc, MT, M4, M5, hS, Pr, Nf, M0, hM⟩ := hI
  rw [qU.l1] at hM
  refine xS <| qm <| sM hS rfl fun hS => sM hS rfl fun hS => qJ hS rfl Tryd.call81 (yQ hG K (qx.mk (qG.mk (qr.mk Ni) MW.Reader_.text_) MT MW.limit_) MV MS M5 Nb NJ Na Nc M4 Nn M6 NU NX M7 M0 Pr Nf Pp Pw Pt (hS.st.part 5 [4, 5, 6, 2, 3, 0, 1] (by kernel_rfl)) (qt hM) (fun Nl Ns Nh w hM NA hst => qz hS.ev hst.appF rfl fun hS => ?_) (fun v w hk hst => xo (qD (zQ (qD (zQ (⟨hS.ev.defs, hpan _ _ hk hst.appF.frame⟩)))))))
  replace hS : Ss _ _ _ H [M6, M7, M5, Nh, M4, M8, M9] F _ _ := hS
  refine sA hS rfl fun hS => qA <| wp_seq <| xS <| qm <| sM hS rfl fun hS => sB hS rfl fun hS => zG (v := Value.bool) (x0 := (Nl == (256 : Int))) hS (xD rfl) rfl fun PE a w hz hS => ?_
  have hM := qB hz hM; clear hz
  refine qA <| qF hS rfl hM (fun N9 hM => ?_) (fun N9 hM => ?_)
  ·refine wp_ret ?_
   refine x6 (zl (x6 (zl (x6 ?_))))
   exact zD (rs := []) hS rfl rfl (hret Ns Nh Na Nc MT M4 M5 _ (q8 hM) NA Nf M0 (hS.st.pick [5, 6, 0, 1, 2, 3, 4] (by kernel_rfl)))
  ·refine wp_seq ?_
   refine zP <| sM hS rfl fun hS => sB hS rfl fun hS => zG (v := Value.bool) (x0 := (decide (Nl < (256 : Int)))) hS (xD rfl) rfl fun PF a w hz hS => ?_
   have hM := qB hz hM; clear hz
   refine qA <| qF hS rfl hM (fun Pa hM => ?_) (fun Pa hM => ?_)
   ·refine wp_seq ?_
    refine za (vals := [some (qL MS 0), some (qL MS 0), some (qL MS 1), some (.slice Na MT.length Nc), some (.int .i64 (MT.length : Int)), some (qL MS 0), some (qL MS 0), some (qL MS 2), some (.int .i64 MW.limit_), some (.bool ((MT.length : Int) == MW.limit_)), none]) hS xG rfl ?_
    intro l w ho hcl hA hst
    refine jg hA hst ho hcl xx xH 10 [0, 1, 2, 3, 4, 5, 6, 7, 8, 9] rfl rfl rfl rfl rfl (by exact ⟨nM rfl, nQ rfl (by exact qW (yy rfl) rfl), nQ rfl (by exact qW (xv rfl Tryd.runUnderlying97 rfl Tryd.sizeOf32 rfl) rfl), nQ rfl (by exact qW (x5 2 rfl M0 rfl rfl Tryd.isAgg32) rfl), nQ rfl (by exact qW (yk rfl Tryd.runUnderlying32) rfl), nM rfl, nQ rfl (by exact qW (yy rfl) rfl), nQ rfl (by exact qW (xv rfl Tryd.runUnderlying97 rfl Tryd.sizeOf3 rfl) rfl), nQ rfl (by exact qW (x5 2 rfl M0 rfl rfl Tryd.isAgg3) rfl), nB rfl, trivial⟩) fun D l a w ho hcl hav hpre hm hE hk hA hst => ?_
    have hS := (Ss.mk hE hst).env2 (e' := [(28, .bool ((MT.length : Int) == MW.limit_))]) ⟨rfl, trivial⟩
    refine qQ rfl <| qJ hS rfl Tryd.call65 (xb hG K ((MT.length : Int) == MW.limit_) (11 : Int) (hS.st.part 0 [0, 1, 2, 3, 4, 5, 6] (by kernel_rfl)) (qt hM) (fun  w hM  hst => qz hS.ev hst.appF rfl fun hS => ?_) (fun v w hk hst => xo (qD (qD (zQ (qD (zQ (qD (zQ (⟨hS.ev.defs, hpan _ _ hk hst.appF.frame⟩))))))))))
    replace hS : Ss _ _ _ H [M6, M7, M5, Nh, M4, M8, M9] F _ _ := hS
    refine qA ?_
    replace hst := hS.st
    obtain ⟨hcl, hmust, hav2, hA⟩ := dn (vals' := [some (qL MS 0), some (qL MS 0), some (qL MS 1), some (.slice Na MT.length Nc), some (.int .i64 (MT.length : Int)), some (qL MS 0), some (qL MS 0), some (qL MS 2), some (.int .i64 MW.limit_), some (.bool ((MT.length : Int) == MW.limit_)), some (.tuple ⟨[]⟩)]) 10 [(9, 10), (4, 9), (8, 9), (3, 4), (7, 8), (2, 3), (6, 7), (1, 2), (5, 6), (0, 1)] hA hcl hav hm hpre hk rfl rfl rfl rfl rfl rfl rfl
    clear hm hav
    refine ym hA hst ho hcl hmust [] rfl rfl rfl trivial fun a w hS => ?_
    replace hS := hS.env2 (e' := [(0, qL MS 0), (1, qL Nn 0), (2, qL No 0), (6, .int .i64 Nl)]) ⟨rfl, rfl, rfl, rfl, trivial⟩
    refine qe <| qm <| sM hS rfl fun hS => sM hS rfl fun hS => sO hS (yy rfl) rfl fun hS => sO hS (xv rfl Tryd.runUnderlying97 rfl Tryd.sizeOf32 rfl) rfl fun hS => sO hS (x5 2 rfl M0 rfl rfl Tryd.isAgg32) rfl fun hS => sM hS rfl fun hS => sO hS (u7 rfl Tryd.runUnderlying3 Tryd.runUnderlying5) rfl fun hS => J2 (g := (ci .u8)) ([(wr .u8 Nl)] : List Int) [.int .u8 (wr .u8 Nl)] hS Tryd.runUnderlying32 Tryd.sizeOf5 X.el5 rfl rfl rfl (by simp [Value.cells]) rfl rfl rfl rfl rfl fun w Py PB PC N5 hS => ?_
    obtain ⟨Pc, hM⟩ := qK hM
    refine J1 (ys := ([(wr .u8 Nl)] : List Int)) 5 hS rfl rfl Nf rfl (N5.rd (i := 0) rfl) Tryd.runUnderlying32 Tryd.runUnderlying32 X.el5 (fun _ => rfl) rfl Qv Pc rfl fun NG w NK NM Pf hz N6 hS => ?_
    have hM := qB hz hM; clear hz
    refine sO hS (yy rfl) rfl fun hS => sO hS (xv rfl Tryd.runUnderlying97 rfl Tryd.sizeOf32 rfl) rfl fun hS => J5 3 ([qL Nb 0, .slice NK NG.length NM, .int .i64 MW.limit_]) hS rfl rfl M0 rfl rfl rfl rfl Tryd.sizeOf32 fun w Pg N2 hS => qA <| wp_exit <| Bd rfl (qE (zd (qe ?_)))
    exact NB _ _ ⟨Ns, Nh, NK, NM, NG, Pf, Pg, hS.to [6, 7, 1, 2, 3, 4, 5] (by kernel_rfl) ⟨rfl, rfl, rfl, trivial⟩, NA, N6, N2, hM⟩
   ·refine wp_skip ?_
    refine zy (qe ?_)
    refine qm <| sM hS rfl fun hS => sB hS rfl fun hS => qJ hS rfl Tryd.call65 (xb hG K (decide (Nl ≥ (286 : Int))) (3 : Int) (hS.st.part 0 [0, 1, 2, 3, 4, 5, 6] (by kernel_rfl)) (qt hM) (fun  w hM  hst => qz hS.ev hst.appF rfl fun hS => ?_) (fun v w hk hst => xo (qD (zQ (qD (zQ (⟨hS.ev.defs, hpan _ _ hk hst.appF.frame⟩)))))))
    replace hS : Ss _ _ _ H [M6, M7, M5, Nh, M4, M8, M9] F _ _ := hS
    refine qA <| qm <| sM hS rfl fun hS => sM hS rfl fun hS => sB hS rfl fun hS => ?_
    obtain ⟨NC, hM⟩ := qK hM
    refine sO hS (V5 rfl rfl Tryd.runUnderlying143 Tryd.sizeOf142 NC) rfl fun hS => sO hS (LF rfl hG.g1 (fun _ => rfl) NC Tryd.isAgg142 Tryd.sizeOf142) rfl fun hS => qJ hS rfl Tryd.call82 (vl hG K (qx.mk (qG.mk (qr.mk Ns) MW.Reader_.text_) MT MW.limit_) (xA.mk ((rd tab_inflate_lengths (qh (Nl - (257 : Int)))).from_) ((rd tab_inflate_lengths (qh (Nl - (257 : Int)))).bits_)) MS M5 Nb Nh Na Nc M4 M0 NA Nf (hS.st.part 3 [2, 3, 4, 0, 1, 5, 6] (by kernel_rfl)) (qt hM) (fun M3 NH NO w hM Pj hst => qz hS.ev hst.appF rfl fun hS => ?_) (fun v w hk hst => xo (qD (zQ (qD (zQ (⟨hS.ev.defs, hpan _ _ hk hst.appF.frame⟩)))))))
    replace hS : Ss _ _ _ H [M5, NO, M4, M6, M7, M8, M9] F _ _ := hS
    refine sA hS rfl fun hS => qA <| qm <| sM hS rfl fun hS => sM hS rfl fun hS => qJ hS rfl Tryd.call81 (yQ hG K (qx.mk (qG.mk (qr.mk NH) MW.Reader_.text_) MT MW.limit_) MZ MS M5 Nb NO Na Nc M4 No M8 NV NY M9 M0 Pj Nf Pq Px Pv (hS.st.part 5 [0, 1, 2, 5, 6, 3, 4] (by kernel_rfl)) (qt hM) (fun NF NI Nz w hM Pk hst => qz hS.ev hst.appF rfl fun hS => ?_) (fun v w hk hst => xo (qD (zQ (qD (zQ (⟨hS.ev.defs, hpan _ _ hk hst.appF.frame⟩)))))))
    replace hS : Ss _ _ _ H [M8, M9, M5, Nz, M4, M6, M7] F _ _ := hS
    refine sA hS rfl fun hS => qA <| qm <| sM hS rfl fun hS => sB hS rfl fun hS => qJ hS rfl Tryd.call65 (xb hG K (decide (NF ≥ (30 : Int))) (3 : Int) (hS.st.part 0 [0, 1, 2, 3, 4, 5, 6] (by kernel_rfl)) (qt hM) (fun  w hM  hst => qz hS.ev hst.appF rfl fun hS => ?_) (fun v w hk hst => xo (qD (zQ (qD (zQ (⟨hS.ev.defs, hpan _ _ hk hst.appF.frame⟩)))))))
    replace hS : Ss _ _ _ H [M8, M9, M5, Nz, M4, M6, M7] F _ _ := hS
    refine qA <| qm <| sM hS rfl fun hS => sM hS rfl fun hS => ?_
    obtain ⟨ND, hM⟩ := qK hM
    refine sO hS (V5 rfl rfl Tryd.runUnderlying144 Tryd.sizeOf142 ND) rfl fun hS => sO hS (LF rfl hG.g2 (fun _ => rfl) ND Tryd.isAgg142 Tryd.sizeOf142) rfl fun hS => qJ hS rfl Tryd.call82 (vl hG K (qx.mk (qG.mk (qr.mk NI) MW.Reader_.text_) MT MW.limit_) (xA.mk ((rd tab_inflate_distances NF).from_) ((rd tab_inflate_distances NF).bits_)) MS M5 Nb Nz Na Nc M4 M0 Pk Nf (hS.st.part 3 [2, 3, 4, 0, 1, 5, 6] (by kernel_rfl)) (qt hM) (fun MU Nu Nq w hM Pm hst => qz hS.ev hst.appF rfl fun hS => ?_) (fun v w hk hst => xo (qD (zQ (qD (zQ (⟨hS.ev.defs, hpan _ _ hk hst.appF.frame⟩)))))))
    replace hS : Ss _ _ _ H [M5, Nq, M4, M8, M9, M6, M7] F _ _ := hS
    refine sA hS rfl fun hS => qA <| qm <| sM hS rfl fun hS => sM hS rfl fun hS => sO hS (yy rfl) rfl fun hS => sO hS (xv rfl Tryd.runUnderlying97 rfl Tryd.sizeOf32 rfl) rfl fun hS => sO hS (x5 0 rfl M0 rfl rfl Tryd.isAgg32) rfl fun hS => sO hS (yk rfl Tryd.runUnderlying32) rfl fun hS => sB hS rfl fun hS => qJ hS rfl Tryd.call65 (xb hG K (decide (MU > (MT.length : Int))) (3 : Int) (hS.st.part 0 [0, 1, 2, 3, 4, 5, 6] (by kernel_rfl)) (qt hM) (fun  w hM  hst => qz hS.ev hst.appF rfl fun hS => ?_) (fun v w hk hst => xo (qD (zQ (qD (zQ (⟨hS.ev.defs, hpan _ _ hk hst.appF.frame⟩)))))))
    replace hS : Ss _ _ _ H [M5, Nq, M4, M8, M9, M6, M7] F _ _ := hS
    refine qA <| wp_seq <| za (vals := [some (qL MS 0), some (qL MS 0), some (qL MS 1), some (.slice Na MT.length Nc), some (.int .i64 (MT.length : Int)), some (.int .i64 M3), some (.int .i64 (qh ((MT.length : Int) + M3))), some (qL MS 0), some (qL MS 0), some (qL MS 2), some (.int .i64 MW.limit_), some (.bool (decide ((qh ((MT.length : Int) + M3)) > MW.limit_))), none]) hS xG rfl ?_
    intro l w ho hcl hA hst
    refine jg hA hst ho hcl xx xH 12 [0, 1, 2, 3, 4, 5, 6, 7, 8, 9, 10, 11] rfl rfl rfl rfl rfl (by exact ⟨nM rfl, nQ rfl (by exact qW (yy rfl) rfl), nQ rfl (by exact qW (xv rfl Tryd.runUnderlying97 rfl Tryd.sizeOf32 rfl) rfl), nQ rfl (by exact qW (x5 0 rfl M0 rfl rfl Tryd.isAgg32) rfl), nQ rfl (by exact qW (yk rfl Tryd.runUnderlying32) rfl), nM rfl, nB rfl, nM rfl, nQ rfl (by exact qW (yy rfl) rfl), nQ rfl (by exact qW (xv rfl Tryd.runUnderlying97 rfl Tryd.sizeOf3 rfl) rfl), nQ rfl (by exact qW (x5 0 rfl M0 rfl rfl Tryd.isAgg3) rfl), nB rfl, trivial⟩) fun D l a w ho hcl hav hpre hm hE hk hA hst => ?_
    have hS := (Ss.mk hE hst).env2 (e' := [(80, .bool (decide ((qh ((MT.length : Int) + M3)) > MW.limit_)))]) ⟨rfl, trivial⟩
    refine qQ rfl <| qJ hS rfl Tryd.call65 (xb hG K (decide ((qh ((MT.length : Int) + M3)) > MW.limit_)) (11 : Int) (hS.st.part 0 [0, 1, 2, 3, 4, 5, 6] (by kernel_rfl)) (qt hM) (fun  w hM  hst => qz hS.ev hst.appF rfl fun hS => ?_) (fun v w hk hst => xo (qD (qD (zQ (qD (zQ (⟨hS.ev.defs, hpan _ _ hk hst.appF.frame⟩))))))))
    replace hS : Ss _ _ _ H [M5, Nq, M4, M8, M9, M6, M7] F _ _ := hS
    refine qA ?_
    replace hst := hS.st
    obtain ⟨hcl, hmust, hav2, hA⟩ := dn (vals' := [some (qL MS 0), some (qL MS 0), some (qL MS 1), some (.slice Na MT.length Nc), some (.int .i64 (MT.length : Int)), some (.int .i64 M3), some (.int .i64 (qh ((MT.length : Int) + M3))), some (qL MS 0), some (qL MS 0), some (qL MS 2), some (.int .i64 MW.limit_), some (.bool (decide ((qh ((MT.length : Int) + M3)) > MW.limit_))), some (.tuple ⟨[]⟩)]) 12 [(11, 12), (6, 11), (10, 11), (4, 6), (5, 6), (9, 10), (3, 4), (8, 9), (2, 3), (7, 8), (1, 2), (0, 1)] hA hcl hav hm hpre hk rfl rfl rfl rfl rfl rfl rfl
    clear hm hav
    refine ym hA hst ho hcl hmust [] rfl rfl rfl trivial fun a w hS => ?_
    replace hS := hS.env2 (e' := [(0, qL MS 0), (1, qL Nn 0), (2, qL No 0), (7, .int .i64 M3), (9, .int .i64 MU)]) ⟨rfl, rfl, rfl, rfl, rfl, trivial⟩
    refine qe <| qm <| sM hS rfl fun hS => sM hS rfl fun hS => qA <| xS <| zv (fun NS a w => ∃ (MX : Option Addr) (MY : Nat) (MR : (List Int)) (Nx : qk) (Ny : qk) (Nr : Int), Ss 108 [] [(0, qL MS 0), (1, qL Nn 0), (2, qL No 0), (9, .int .i64 MU), (82, .int .i64 M3), (83, .int .i64 Nr)] H [M8, M9, M6, M7, Ny, Nq, Nx] F a w ∧ (xj 5 (ci .u8) 1 MX MR MY Nx) ∧ (xM Ny MS ([qL Nb 0, .slice MX MR.length MY, .int .i64 MW.limit_]) 97) ∧ (qU.l2 K (qU.l1 K MW MV MZ Pe) M3 MU Nu NS MR Nr).wp kr kp) K ?_ ?_ ?_
    ·exact ⟨Na, Nc, MT, M4, M5, (0 : Int), hS.to [3, 4, 5, 6, 0, 1, 2] (by kernel_rfl) ⟨rfl, rfl, rfl, rfl, rfl, rfl, trivial⟩, Nf, M0, hM⟩
    ·intro a w hI; obtain ⟨_, _, _, _, _, _, _, _, _, hM⟩ := hI; exact zt hM
    ·intro NS a w hI Pz N4
     obtain ⟨MX, MY, MR, Nx, Ny, Nr, hS, Nj, Nd, hM⟩ := hI
     rw [qU.l2] at hM
     refine qm <| sB hS rfl fun hS => qA <| wp_seq <| qF hS rfl hM (fun Pb hM => ?_) (fun Pb hM => ?_)
     ·refine wp_skip ?_
      refine qe <| wp_seq <| xS ?_
      obtain ⟨NE, hM⟩ := qK hM
      refine za (vals := [some (qL MS 0), some (qL MS 0), some (qL MS 0), some (qL MS 1), some (.slice MX MR.length MY), some (qL MS 0), some (qL MS 0), some (qL MS 1), some (.slice MX MR.length MY), some (qL MS 0), some (qL MS 0), some (qL MS 1), some (.slice MX MR.length MY), some (.int .i64 (MR.length : Int)), some (.int .i64 MU), some (.int .i64 (qh ((MR.length : Int) - MU))), some (xI MX (Int.toNat (qh ((MR.length : Int) - MU)) * 1)), some (.int .u8 (rd MR (qh ((MR.length : Int) - MU)))), none, none, none, none, none]) hS xG rfl ?_
      intro l w ho hcl hA hst
      refine jg hA hst ho hcl xx xH 18 [0, 1, 2, 3, 4, 5, 6, 7, 8, 9, 10, 11, 12, 13, 14, 15, 16, 17] rfl rfl rfl rfl rfl (by exact ⟨nM rfl, nM rfl, nQ rfl (by exact qW (yy rfl) rfl), nQ rfl (by exact qW (xv rfl Tryd.runUnderlying97 rfl Tryd.sizeOf32 rfl) rfl), nQ rfl (by exact qW (x5 4 rfl Nd rfl rfl Tryd.isAgg32) rfl), nM rfl, nQ rfl (by exact qW (yy rfl) rfl), nQ rfl (by exact qW (xv rfl Tryd.runUnderlying97 rfl Tryd.sizeOf32 rfl) rfl), nQ rfl (by exact qW (x5 4 rfl Nd rfl rfl Tryd.isAgg32) rfl), nM rfl, nQ rfl (by exact qW (yy rfl) rfl), nQ rfl (by exact qW (xv rfl Tryd.runUnderlying97 rfl Tryd.sizeOf32 rfl) rfl), nQ rfl (by exact qW (x5 4 rfl Nd rfl rfl Tryd.isAgg32) rfl), nQ rfl (by exact qW (yk rfl Tryd.runUnderlying32) rfl), nM rfl, nB rfl, nQ rfl (by exact qW (yv rfl rfl Tryd.runUnderlying32 Tryd.sizeOf5 (Nj.rd (i := 6) rfl) (fun _ => rfl) rfl NE) rfl), nQ rfl (by exact qW (yG rfl (Nj.rd (i := 6) rfl) (fun _ => rfl) NE rfl Tryd.isAgg5) rfl), trivial⟩) fun D l a w ho hcl hav hpre hm hE hk hA hst => ?_
      have hS := (Ss.mk hE hst).env2 (e' := [(102, .int .u8 (rd MR (qh ((MR.length : Int) - MU))))]) ⟨rfl, trivial⟩
      refine qQ rfl <| J2 (g := (ci .u8)) ([(rd MR (qh ((MR.length : Int) - MU)))] : List Int) [.int .u8 (rd MR (qh ((MR.length : Int) - MU)))] hS Tryd.runUnderlying32 Tryd.sizeOf5 X.el5 rfl rfl rfl (by simp [Value.cells]) rfl rfl rfl rfl rfl fun w Nt Nw PD N7 hS => qA ?_
      replace hst := hS.st
      obtain ⟨hcl, hmust, hav2, hA⟩ := dn (vals' := [some (qL MS 0), some (qL MS 0), some (qL MS 0), some (qL MS 1), some (.slice MX MR.length MY), some (qL MS 0), some (qL MS 0), some (qL MS 1), some (.slice MX MR.length MY), some (qL MS 0), some (qL MS 0), some (qL MS 1), some (.slice MX MR.length MY), some (.int .i64 (MR.length : Int)), some (.int .i64 MU), some (.int .i64 (qh ((MR.length : Int) - MU))), some (xI MX (Int.toNat (qh ((MR.length : Int) - MU)) * 1)), some (.int .u8 (rd MR (qh ((MR.length : Int) - MU)))), some (.slice Nt ([(rd MR (qh ((MR.length : Int) - MU)))] : List Int).length Nw), none, none, none, none]) 18 [(17, 18), (16, 17), (8, 16), (15, 16), (7, 8), (13, 15), (14, 15), (6, 7), (12, 13), (5, 6), (11, 12), (10, 11), (9, 10)] hA hcl hav hm hpre hk rfl rfl rfl rfl rfl rfl rfl
      clear hm hav
      refine jg hA hst ho hcl hav2 hmust 19 [0, 1, 2, 3, 4] rfl rfl rfl rfl rfl (by exact ⟨nM rfl, nM rfl, nQ rfl (by exact qW (yy rfl) rfl), nQ rfl (by exact qW (xv rfl Tryd.runUnderlying97 rfl Tryd.sizeOf32 rfl) rfl), nQ rfl (by exact qW (x5 5 rfl Nd rfl rfl Tryd.isAgg32) rfl), trivial⟩) fun D l a w ho hcl hav hpre hm hE hk hA hst => ?_
      have hS := (Ss.mk hE hst).env2 (e' := [(89, .slice MX MR.length MY), (103, .slice Nt ([(rd MR (qh ((MR.length : Int) - MU)))] : List Int).length Nw)]) ⟨rfl, rfl, trivial⟩
      refine qQ rfl ?_
      obtain ⟨Pd, hM⟩ := qK hM
      refine J1 (ys := ([(rd MR (qh ((MR.length : Int) - MU)))] : List Int)) 7 hS rfl rfl Nj rfl (N7.rd (i := 0) rfl) Tryd.runUnderlying32 Tryd.runUnderlying32 X.el5 (fun _ => rfl) rfl Qv Pd rfl fun Ng w Nm Np Ph hz N8 hS => ?_
      have hM := qB hz hM; clear hz
      refine qA ?_
      replace hst := hS.st
      obtain ⟨hcl, hmust, hav2, hA⟩ := dn (vals' := [some (qL MS 0), some (qL MS 0), some (qL MS 0), some (qL MS 1), some (.slice MX MR.length MY), some (qL MS 0), some (qL MS 0), some (qL MS 1), some (.slice MX MR.length MY), some (qL MS 0), some (qL MS 0), some (qL MS 1), some (.slice MX MR.length MY), some (.int .i64 (MR.length : Int)), some (.int .i64 MU), some (.int .i64 (qh ((MR.length : Int) - MU))), some (xI MX (Int.toNat (qh ((MR.length : Int) - MU)) * 1)), some (.int .u8 (rd MR (qh ((MR.length : Int) - MU)))), some (.slice Nt ([(rd MR (qh ((MR.length : Int) - MU)))] : List Int).length Nw), some (.slice Nm Ng.length Np), some (qL MS 0), some (qL MS 1), none]) 19 [(4, 19), (18, 19), (3, 4), (17, 18), (2, 3), (16, 17), (1, 2), (8, 16), (15, 16), (7, 8), (13, 15), (14, 15), (6, 7), (12, 13), (5, 6), (11, 12), (10, 11), (9, 10)] hA hcl hav hm hpre hk rfl rfl rfl rfl rfl rfl rfl
      clear hm hav
      refine jg hA hst ho hcl hav2 hmust 22 [0, 20, 21] rfl rfl rfl rfl rfl (by exact ⟨nM rfl, nQ rfl (by exact qW (yy rfl) rfl), nQ rfl (by exact qW (xv rfl Tryd.runUnderlying97 rfl Tryd.sizeOf32 rfl) rfl), trivial⟩) fun D l a w ho hcl hav hpre hm hE hk hA hst => ?_
      have hS := (Ss.mk hE hst).env2 (e' := [(104, .slice Nm Ng.length Np), (106, qL MS 1)]) ⟨rfl, rfl, trivial⟩
      refine qQ rfl <| J5 5 ([qL Nb 0, .slice Nm Ng.length Np, .int .i64 MW.limit_]) hS rfl rfl Nd rfl rfl rfl rfl Tryd.sizeOf32 fun w Pi N3 hS => qA ?_
      replace hst := hS.st
      obtain ⟨hcl, hmust, hav2, hA⟩ := XQ (vals' := [some (qL MS 0), some (qL MS 0), some (qL MS 0), some (qL MS 1), some (.slice MX MR.length MY), some (qL MS 0), some (qL MS 0), some (qL MS 1), some (.slice MX MR.length MY), some (qL MS 0), some (qL MS 0), some (qL MS 1), some (.slice MX MR.length MY), some (.int .i64 (MR.length : Int)), some (.int .i64 MU), some (.int .i64 (qh ((MR.length : Int) - MU))), some (xI MX (Int.toNat (qh ((MR.length : Int) - MU)) * 1)), some (.int .u8 (rd MR (qh ((MR.length : Int) - MU)))), some (.slice Nt ([(rd MR (qh ((MR.length : Int) - MU)))] : List Int).length Nw), some (.slice Nm Ng.length Np), some (qL MS 0), some (qL MS 1), some undef]) 22 [(0, 22), (1, 22), (2, 22), (3, 22), (4, 22), (5, 22), (6, 22), (7, 22), (8, 22), (9, 22), (10, 22), (11, 22), (12, 22), (13, 22), (14, 22), (15, 22), (16, 22), (17, 22), (18, 22), (19, 22), (21, 22), (20, 21)] hA hcl hav hm hpre rfl rfl rfl rfl rfl
      clear hm hav
      refine ym hA hst ho hcl hmust [] rfl rfl rfl trivial fun a w hS => ?_
      replace hS := hS.env2 (e' := [(0, qL MS 0), (1, qL Nn 0), (2, qL No 0), (9, .int .i64 MU), (82, .int .i64 M3), (83, .int .i64 Nr)]) ⟨rfl, rfl, rfl, rfl, rfl, rfl, trivial⟩
      refine zy (qe ?_)
      refine zP <| sB hS rfl fun hS => sM hS rfl fun hS => zn <| qe ?_
      exact N4 _ _ ⟨Nm, Np, Ng, Ph, Pi, (qh (Nr + (1 : Int))), hS.to [1, 2, 3, 4, 5, 6, 7] (by kernel_rfl) ⟨rfl, rfl, rfl, rfl, rfl, rfl, trivial⟩, N8, N3, hM⟩
     ·refine wp_exit ?_
      refine qE (qE (zd (zy (qe ?_))))
      exact NB _ _ ⟨Nu, Nq, MX, MY, MR, Nx, Ny, hS.to [0, 1, 2, 3, 4, 5, 6] (by kernel_rfl) ⟨rfl, rfl, rfl, trivial⟩, Pm, Nj, Nd, hM⟩
theorem Qq {H : xT} {F : List qk} {w : World} {R : Ending → World → Prop} {kr : ((List Int) × Int) → Prop} {kp : Value → Prop} (hG : Gl H) (K : Nat) (MS : qx) (MX : Int) (M9 : qH) (MZ : Nat) (MU : qk) (M8 : Nat) (NC : qk) (Nh : Option Addr) (Ni : Nat) (MV : qk) (Nf : Nat) (M0 : qk) (NA : Option Addr) (NB : Nat) (M3 : qk) (Nl : xM MU MZ ([qL M8 0, .slice Nh MS.out_.length Ni, .int .i64 MS.limit_]) 97) (NU : xM NC M8 ([.int .i64 MS.Reader_.place_.at_, xi MS.Reader_.text_]) 118) (Nn : xj 5 (ci .u8) 1 Nh MS.out_ Ni MV) (NV : xM M0 Nf ((M9.counts_.flatMap (ci .i64)) ++ [.slice NA M9.symbols_.length NB]) 160) (N9 : M9.counts_.length = 16) (NZ : xj 3 (ci .i64) 1 NA M9.symbols_ NB M3)
    (hS : St w H [MU, NC, MV, M0, M3] F) (hm : (qO.m K MS MX M9).wp kr kp)
    (hret : ∀ (NM : Option Addr) (NN : Nat) (NI : (List Int)) (NR : qk) (Nr : Int) (NS : qk) (w : World), kr (NI, Nr) → (xj 3 (ci .i64) 1 NM NI NN NR) → (xM NS M8 ([.int .i64 Nr, xi MS.Reader_.text_]) 118) → St w H [NR, M0, M3, MU, NS, MV] F → R (.returned (.slice NM NI.length NN)) w)
    (hpan : ∀ v w, kp v → St w H [] F → R (.panicked [⟨v, false, false⟩]) w) :
    Calls Tryd.prog 84 ⟨[qL MZ 0, .int .i64 MX, qL Nf 0]⟩ w R := by
 refine enter Tryd.func84 rfl Tryd.ntmps84 rfl hS fun a w hS => ?_
 have hM := hm; clear hm
 rw [qO.m] at hM
 refine qm <| sA hS rfl fun hS => ?_
 obtain ⟨Pr, Pk, hS⟩ := hS.nilV 3 (ci .i64) 1
 refine qA <| qm <| sA hS rfl fun hS => ?_
 obtain ⟨Pd, N0, hS⟩ := hS.nilV 3 (ci .i64) 1
 refine qA <| wp_seq <| xS <| zv (fun Nv a w => ∃ (M6 : Int) (Np : qk) (MY : Option Addr) (M5 : Nat) (MR : (List Int)) (M4 : qk), Ss 63 [] [(0, qL MZ 0), (1, .int .i64 MX), (2, qL Nf 0), (7, .slice MY MR.length M5)] H [M0, M3, MU, Np, MV, M4] F a w ∧ (xM Np M8 ([.int .i64 M6, xi MS.Reader_.text_]) 118) ∧ (xj 3 (ci .i64) 1 MY MR M5 M4) ∧ (qO.l1 K MS MX M9 Nv M6 MR).wp kr kp) K ?_ ?_ ?_
 ·exact ⟨MS.Reader_.place_.at_, NC, none, 0, ([] : List Int), Pd, hS.to [5, 6, 2, 3, 4, 0] (by kernel_rfl) ⟨rfl, rfl, rfl, rfl, trivial⟩, NU, N0, hM⟩
 ·intro a w hI; obtain ⟨_, _, _, _, _, _, _, _, _, hM⟩ := hI; exact zt hM
 ·intro Nv a w hI Pp NY
  obtain ⟨M6, Np, MY, M5, MR, M4, hS, ND, Na, hM⟩ := hI
  rw [qO.l1] at hM
  refine wp_seq <| qm <| sM hS rfl fun hS => sO hS (yk rfl Tryd.runUnderlying66) rfl fun hS => sM hS rfl fun hS => sB hS rfl fun hS => qA <| qF hS rfl hM (fun N3 hM => ?_) (fun N3 hM => ?_)
  ·refine wp_skip ?_
   refine qe <| xS <| qm <| sM hS rfl fun hS => sM hS rfl fun hS => qJ hS rfl Tryd.call81 (yQ hG K (qx.mk (qG.mk (qr.mk M6) MS.Reader_.text_) MS.out_ MS.limit_) M9 MZ MU M8 Np Nh Ni MV Nf M0 NA NB M3 Nl ND Nn NV N9 NZ (hS.st.part 5 [2, 3, 4, 0, 1, 5] (by kernel_rfl)) (qt hM) (fun Nx Nd Nj w hM Nu hst => qz hS.ev hst.appF rfl fun hS => ?_) (fun v w hk hst => xo (qD (zQ (qD (zQ (qD (⟨hS.ev.defs, hpan _ _ hk hst.appF.frame⟩))))))))
   replace hS : Ss _ _ _ H [M0, M3, MU, Nj, MV, M4] F _ _ := hS
   refine sA hS rfl fun hS => qA <| qm <| sA hS rfl fun hS => sA hS rfl fun hS => qA <| zm (fun a w => ∃ (M7 : Int) (Nk : qk) (MT : Int) (MW : Int), Ss 63 [] [(0, qL MZ 0), (1, .int .i64 MX), (2, qL Nf 0), (7, .slice MY MR.length M5), (9, .int .i64 MT), (10, .int .i64 MW)] H [M0, M3, MU, Nk, MV, M4] F a w ∧ (xM Nk M8 ([.int .i64 M7, xi MS.Reader_.text_]) 118) ∧ (qO.j2 K (qO.l1 K MS MX M9 Nv) MX MR M7 MT MW).wp kr kp) (fun Pn Nm => ?_) ?_
   ·refine xS ?_
    refine qm <| sM hS rfl fun hS => sB hS rfl fun hS => zG (v := Value.bool) (x0 := (decide (Nx < (16 : Int)))) hS (xD rfl) rfl fun Pt a w hz hS => ?_
    have hM := qB hz hM; clear hz
    refine qA <| qF hS rfl hM (fun N4 hM => ?_) (fun N4 hM => ?_)
    ·refine zP ?_
     refine sM hS rfl fun hS => sA hS rfl fun hS => zn <| zy (qe ?_)
     exact Nm _ _ ⟨Nd, Nj, Nx, (1 : Int), hS.to [0, 1, 2, 3, 4, 5] (by kernel_rfl) ⟨rfl, rfl, rfl, rfl, rfl, rfl, trivial⟩, Nu, hM⟩
    ·refine wp_seq ?_
     refine zP <| sM hS rfl fun hS => sB hS rfl fun hS => zG (v := Value.bool) (x0 := (Nx == (16 : Int))) hS (xD rfl) rfl fun Pv a w hz hS => ?_
     have hM := qB hz hM; clear hz
     refine qA <| qF hS rfl hM (fun N5 hM => ?_) (fun N5 hM => ?_)
     ·refine wp_seq ?_
      refine zP <| sM hS rfl fun hS => sO hS (yk rfl Tryd.runUnderlying66) rfl fun hS => sB hS rfl fun hS => qJ hS rfl Tryd.call65 (xb hG K ((MR.length : Int) == (0 : Int)) (3 : Int) (hS.st.part 0 [0, 1, 2, 3, 4, 5] (by kernel_rfl)) (qt hM) (fun  w hM  hst => qz hS.ev hst.appF rfl fun hS => ?_) (fun v w hk hst => xo (qD (zQ (qD (zQ (qD (zQ (qD (⟨hS.ev.defs, hpan _ _ hk hst.appF.frame⟩))))))))))
      replace hS : Ss _ _ _ H [M0, M3, MU, Nj, MV, M4] F _ _ := hS
      refine zn <| qe ?_
      obtain ⟨No, hM⟩ := qK hM
      refine za (vals := [some (.slice MY MR.length M5), some (.slice MY MR.length M5), some (.int .i64 (MR.length : Int)), some (.int .i64 (qh ((MR.length : Int) - (1 : Int)))), some (xI MY (Int.toNat (qh ((MR.length : Int) - (1 : Int))) * 1)), some (.int .i64 (rd MR (qh ((MR.length : Int) - (1 : Int))))), some (qL MZ 0), none, none, none, none]) hS xG rfl ?_
      intro l w ho hcl hA hst
      refine jg hA hst ho hcl xx xH 7 [0, 1, 2, 3, 4, 5, 6] rfl rfl rfl rfl rfl (by exact ⟨nM rfl, nM rfl, nQ rfl (by exact qW (yk rfl Tryd.runUnderlying66) rfl), nB rfl, nQ rfl (by exact qW (yv rfl rfl Tryd.runUnderlying66 Tryd.sizeOf3 (Na.rd (i := 5) rfl) (fun _ => rfl) rfl No) rfl), nQ rfl (by exact qW (yG rfl (Na.rd (i := 5) rfl) (fun _ => rfl) No rfl Tryd.isAgg3) rfl), nM rfl, trivial⟩) fun D l a w ho hcl hav hpre hm hE hk hA hst => ?_
      have hS := (Ss.mk hE hst).env2 (e' := [(38, qL MZ 0)]) ⟨rfl, trivial⟩
      refine qQ rfl <| qJ hS rfl Tryd.call60 (z4 hG K (qx.mk (qG.mk (qr.mk Nd) MS.Reader_.text_) MS.out_ MS.limit_) (2 : Int) MZ MU M8 Nj Nh Ni MV Nl Nu Nn (hS.st.part 3 [2, 3, 4, 0, 1, 5] (by kernel_rfl)) (qt hM) (fun NH NJ NO w hM Pf hst => qz hS.ev hst.appF rfl fun hS => ?_) (fun v w hk hst => xo (qD (zQ (qD (zQ (qD (zQ (qD (⟨hS.ev.defs, hpan _ _ hk hst.appF.frame⟩))))))))))
      replace hS : Ss _ _ _ H [MU, NO, MV, M0, M3, M4] F _ _ := hS
      refine qA ?_
      replace hst := hS.st
      obtain ⟨Nc, NF⟩ : ∃ x, x = (rd MR (qh ((MR.length : Int) - (1 : Int)))) := ⟨_, rfl⟩
      replace hM := qB NF hM
      obtain ⟨Nb, NG⟩ : ∃ x, x = (qh ((3 : Int) + NH)) := ⟨_, rfl⟩
      replace hM := qB NG hM
      obtain ⟨hcl, hmust, hav2, hA⟩ := dn (vals' := [some (.slice MY MR.length M5), some (.slice MY MR.length M5), some (.int .i64 (MR.length : Int)), some (.int .i64 (qh ((MR.length : Int) - (1 : Int)))), some (xI MY (Int.toNat (qh ((MR.length : Int) - (1 : Int))) * 1)), some (.int .i64 (rd MR (qh ((MR.length : Int) - (1 : Int))))), some (qL MZ 0), some (.int .i64 NH), some (.int .i64 (qh ((3 : Int) + NH))), some (.int .i64 Nc), some (.int .i64 Nb)]) 7 [(6, 7)] hA hcl hav hm hpre hk rfl rfl rfl rfl rfl rfl rfl
      clear hm hav
      refine ym hA hst ho hcl hmust [0, 1, 2, 3, 4, 5, 8, 9, 10] rfl rfl rfl (by exact ⟨nM rfl, nM rfl, nQ rfl (by exact qW (yk rfl Tryd.runUnderlying66) rfl), nB rfl, nQ rfl (by exact qW (yv rfl rfl Tryd.runUnderlying66 Tryd.sizeOf3 (Na.rd (i := 5) rfl) (fun _ => rfl) rfl No) rfl), nQ rfl (by exact qW (yG rfl (Na.rd (i := 5) rfl) (fun _ => rfl) No rfl Tryd.isAgg3) rfl), nB rfl, nQ rfl (by exact qW (xD rfl) (congrArg (Value.int .i64) NF.symm)), nQ rfl (by exact qW (xD rfl) (congrArg (Value.int .i64) NG.symm)), trivial⟩) fun a w hS => ?_
      replace hS := hS.env2 (e' := [(0, qL MZ 0), (1, .int .i64 MX), (2, qL Nf 0), (7, .slice MY MR.length M5), (9, .int .i64 Nc), (10, .int .i64 Nb)]) ⟨rfl, rfl, rfl, rfl, rfl, rfl, trivial⟩
      refine zy (qe ?_)
      exact Nm _ _ ⟨NJ, NO, Nc, Nb, hS.to [3, 4, 0, 1, 2, 5] (by kernel_rfl) ⟨rfl, rfl, rfl, rfl, rfl, rfl, trivial⟩, Pf, hM⟩
     ·refine wp_seq ?_
      refine zP <| sM hS rfl fun hS => sB hS rfl fun hS => zG (v := Value.bool) (x0 := (Nx == (17 : Int))) hS (xD rfl) rfl fun Pw a w hz hS => ?_
      have hM := qB hz hM; clear hz
      refine qA <| qF hS rfl hM (fun N6 hM => ?_) (fun N6 hM => ?_)
      ·refine zP ?_
       refine sM hS rfl fun hS => qJ hS rfl Tryd.call60 (z4 hG K (qx.mk (qG.mk (qr.mk Nd) MS.Reader_.text_) MS.out_ MS.limit_) (3 : Int) MZ MU M8 Nj Nh Ni MV Nl Nu Nn (hS.st.part 3 [2, 3, 4, 0, 1, 5] (by kernel_rfl)) (qt hM) (fun Pi NK NP w hM Pg hst => qz hS.ev hst.appF rfl fun hS => ?_) (fun v w hk hst => xo (zQ (qD (zQ (qD (zQ (qD (⟨hS.ev.defs, hpan _ _ hk hst.appF.frame⟩)))))))))
       replace hS : Ss _ _ _ H [MU, NP, MV, M0, M3, M4] F _ _ := hS
       refine sB hS rfl fun hS => zG (v := Value.int .i64) (x0 := (qh ((3 : Int) + Pi))) hS (xD rfl) rfl fun Ny a w hz hS => ?_
       have hM := qB hz hM; clear hz
       refine zn <| zy (qe ?_)
       exact Nm _ _ ⟨NK, NP, (0 : Int), Ny, hS.to [3, 4, 0, 1, 2, 5] (by kernel_rfl) ⟨rfl, rfl, rfl, rfl, rfl, rfl, trivial⟩, Pg, hM⟩
      ·refine zP ?_
       refine sM hS rfl fun hS => qJ hS rfl Tryd.call60 (z4 hG K (qx.mk (qG.mk (qr.mk Nd) MS.Reader_.text_) MS.out_ MS.limit_) (7 : Int) MZ MU M8 Nj Nh Ni MV Nl Nu Nn (hS.st.part 3 [2, 3, 4, 0, 1, 5] (by kernel_rfl)) (qt hM) (fun Pj NL NQ w hM Ph hst => qz hS.ev hst.appF rfl fun hS => ?_) (fun v w hk hst => xo (zQ (qD (zQ (qD (zQ (qD (⟨hS.ev.defs, hpan _ _ hk hst.appF.frame⟩)))))))))
       replace hS : Ss _ _ _ H [MU, NQ, MV, M0, M3, M4] F _ _ := hS
       refine sB hS rfl fun hS => zG (v := Value.int .i64) (x0 := (qh ((11 : Int) + Pj))) hS (xD rfl) rfl fun Nz a w hz hS => ?_
       have hM := qB hz hM; clear hz
       refine zn <| zy (qe ?_)
       exact Nm _ _ ⟨NL, NQ, (0 : Int), Nz, hS.to [3, 4, 0, 1, 2, 5] (by kernel_rfl) ⟨rfl, rfl, rfl, rfl, rfl, rfl, trivial⟩, Ph, hM⟩
   ·intro a w hI
    obtain ⟨M7, Nk, MT, MW, hS, NW, hM⟩ := hI
    rw [qO.j2] at hM
    refine qm <| sM hS rfl fun hS => sM hS rfl fun hS => sM hS rfl fun hS => sO hS (yk rfl Tryd.runUnderlying66) rfl fun hS => sB hS rfl fun hS => sB hS rfl fun hS => qJ hS rfl Tryd.call65 (xb hG K (decide (MW > (qh (MX - (MR.length : Int))))) (3 : Int) (hS.st.part 0 [0, 1, 2, 3, 4, 5] (by kernel_rfl)) (qt hM) (fun  w hM  hst => qz hS.ev hst.appF rfl fun hS => ?_) (fun v w hk hst => xo (qD (zQ (qD (zQ (qD (⟨hS.ev.defs, hpan _ _ hk hst.appF.frame⟩))))))))
    replace hS : Ss _ _ _ H [M0, M3, MU, Nk, MV, M4] F _ _ := hS
    refine qA <| qm <| sM hS rfl fun hS => sM hS rfl fun hS => qA <| xS <| zv (fun NT a w => ∃ (Nq : Option Addr) (Ns : Nat) (Ng : (List Int)) (Nt : qk) (Nw : Int), Ss 63 [] [(0, qL MZ 0), (1, .int .i64 MX), (2, qL Nf 0), (7, .slice Nq Ng.length Ns), (9, .int .i64 MT), (54, .int .i64 MW), (55, .int .i64 Nw)] H [M0, M3, MU, Nk, MV, Nt] F a w ∧ (xj 3 (ci .i64) 1 Nq Ng Ns Nt) ∧ (qO.l3 K (qO.l1 K MS MX M9 Nv) M7 MT MW NT Ng Nw).wp kr kp) K ?_ ?_ ?_
    ·exact ⟨MY, M5, MR, M4, (0 : Int), hS.to [0, 1, 2, 3, 4, 5] (by kernel_rfl) ⟨rfl, rfl, rfl, rfl, rfl, rfl, rfl, trivial⟩, Na, hM⟩
    ·intro a w hI; obtain ⟨_, _, _, _, _, _, _, hM⟩ := hI; exact zt hM
    ·intro NT a w hI Po NX
     obtain ⟨Nq, Ns, Ng, Nt, Nw, hS, NE, hM⟩ := hI
     rw [qO.l3] at hM
     refine qm <| sB hS rfl fun hS => qA <| wp_seq <| qF hS rfl hM (fun N7 hM => ?_) (fun N7 hM => ?_)
     ·refine wp_skip ?_
      refine qe <| wp_seq <| xS <| zP <| sM hS rfl fun hS => sM hS rfl fun hS => J2 (g := (ci .i64)) ([MT] : List Int) [.int .i64 MT] hS Tryd.runUnderlying66 Tryd.sizeOf3 X.el3 rfl rfl rfl (by simp [Value.cells]) rfl rfl rfl rfl rfl fun w Pm Pq Ps N1 hS => ?_
      obtain ⟨N8, hM⟩ := qK hM
      refine J1 (ys := ([MT] : List Int)) 6 hS rfl rfl NE rfl (N1.rd (i := 0) rfl) Tryd.runUnderlying66 Tryd.runUnderlying66 X.el3 (fun _ => rfl) rfl xJ N8 rfl fun Pa w Pb Pc Pe hz N2 hS => ?_
      have hM := qB hz hM; clear hz
      refine sA hS rfl fun hS => zn <| zy (qe ?_)
      refine zP <| sB hS rfl fun hS => sM hS rfl fun hS => zn <| qe ?_
      exact NX _ _ ⟨Pb, Pc, Pa, Pe, (qh (Nw + (1 : Int))), hS.to [1, 2, 3, 4, 5, 6] (by kernel_rfl) ⟨rfl, rfl, rfl, rfl, rfl, rfl, rfl, trivial⟩, N2, hM⟩
     ·refine wp_exit ?_
      refine qE (qE (zd (zy (qe ?_))))
      exact NY _ _ ⟨M7, Nk, Nq, Ns, Ng, Nt, hS.to [0, 1, 2, 3, 4, 5] (by kernel_rfl) ⟨rfl, rfl, rfl, rfl, trivial⟩, NW, NE, hM⟩
  ·refine wp_exit ?_
   refine qE (qE (zd (qe ?_)))
   refine qm <| sM hS rfl fun hS => sA hS rfl fun hS => qA <| wp_ret ?_
   exact zD (rs := [6]) hS rfl rfl (hret MY M5 MR M4 M6 Np _ (q8 hM) Na ND (hS.st.pick [5, 0, 1, 2, 3, 4] (by kernel_rfl)))
theorem uk {H : xT} {F : List qk} {w : World} {R : Ending → World → Prop} {kr : ((Option qH) × (Option qH) × Int) → Prop} {kp : Value → Prop} (hG : Gl H) (K : Nat) (MR : qx) (MZ : Nat) (MS : qk) (MW : Nat) (NE : qk) (M5 : Option Addr) (M6 : Nat) (MT : qk) (M8 : xM MS MZ ([qL MW 0, .slice M5 MR.out_.length M6, .int .i64 MR.limit_]) 97) (N4 : xM NE MW ([.int .i64 MR.Reader_.place_.at_, xi MR.Reader_.text_]) 118) (M9 : xj 5 (ci .u8) 1 M5 MR.out_ M6 MT)
    (hS : St w H [MS, NE, MT] F) (hm : (zb.m K MR).wp kr kp)
    (hret : ∀ (NR : Option Addr) (N2 : Option qH) (NY : qk) (NS : Option Addr) (N3 : Option qH) (NZ : qk) (NB : Int) (N0 : qk) (w : World), kr (N2, N3, NB) → (KZ qH.Own NR N2 NY) → (KZ qH.Own NS N3 NZ) → (xM N0 MW ([.int .i64 NB, xi MR.Reader_.text_]) 118) → St w H [NY, NZ, MS, N0, MT] F → R (.returned (.tuple ⟨[.pointer NR, .pointer NS]⟩)) w)
    (hpan : ∀ v w, kp v → St w H [] F → R (.panicked [⟨v, false, false⟩]) w) :
    Calls Tryd.prog 64 ⟨[qL MZ 0]⟩ w R := by
 refine enter Tryd.func64 rfl Tryd.ntmps64 rfl hS fun a w hS => ?_
 have hM := hm; clear hm
 rw [zb.m] at hM
 refine qm <| sA hS rfl fun hS => sA hS rfl fun hS => qA <| qm <| sM hS rfl fun hS => qJ hS rfl Tryd.call60 (z4 hG K MR (5 : Int) MZ MS MW NE M5 M6 MT M8 N4 M9 (hS.st.part 3 [0, 1, 2] (by kernel_rfl)) (qt hM) (fun PC NL NT w hM Pt hst => qz hS.ev hst.appF rfl fun hS => ?_) (fun v w hk hst => xo (qD (⟨hS.ev.defs, hpan _ _ hk hst.appF.frame⟩))))
 replace hS : Ss _ _ _ H [MS, NT, MT] F _ _ := hS
 refine sB hS rfl fun hS => sM hS rfl fun hS => qJ hS rfl Tryd.call60 (z4 hG K (qx.mk (qG.mk (qr.mk NL) MR.Reader_.text_) MR.out_ MR.limit_) (5 : Int) MZ MS MW NT M5 M6 MT M8 Pt M9 (hS.st.part 3 [0, 1, 2] (by kernel_rfl)) (qt hM) (fun PD NM NU w hM Pv hst => qz hS.ev hst.appF rfl fun hS => ?_) (fun v w hk hst => xo (qD (⟨hS.ev.defs, hpan _ _ hk hst.appF.frame⟩))))
 replace hS : Ss _ _ _ H [MS, NU, MT] F _ _ := hS
 refine sB hS rfl fun hS => zG (v := Value.int .i64) (x0 := (qh (PC + (257 : Int)))) hS (xD rfl) rfl fun MU a w hz hS => ?_
 have hM := qB hz hM; clear hz
 refine zG (v := Value.int .i64) (x0 := (qh (PD + (1 : Int)))) hS (xD rfl) rfl fun M7 a w hz hS => ?_
 have hM := qB hz hM; clear hz
 refine qA <| qm <| sM hS rfl fun hS => qJ hS rfl Tryd.call60 (z4 hG K (qx.mk (qG.mk (qr.mk NM) MR.Reader_.text_) MR.out_ MR.limit_) (4 : Int) MZ MS MW NU M5 M6 MT M8 Pv M9 (hS.st.part 3 [0, 1, 2] (by kernel_rfl)) (qt hM) (fun PE NN NF w hM Pw hst => qz hS.ev hst.appF rfl fun hS => ?_) (fun v w hk hst => xo (qD (⟨hS.ev.defs, hpan _ _ hk hst.appF.frame⟩))))
 replace hS : Ss _ _ _ H [MS, NF, MT] F _ _ := hS
 refine sB hS rfl fun hS => zG (v := Value.int .i64) (x0 := (qh (PE + (4 : Int)))) hS (xD rfl) rfl fun Nk a w hz hS => ?_
 have hM := qB hz hM; clear hz
 refine qA <| qm <| sM hS rfl fun hS => sB hS rfl fun hS => sM hS rfl fun hS => yJ 2 false 22 (b := (decide (MU > (286 : Int)))) (r := (decide (M7 > (30 : Int)))) hS rfl rfl rfl rfl rfl rfl rfl (fun hb a w hS K hK => ?_) rfl fun a w hS => ?_
 ·refine zW hS rfl rfl rfl hb (mv rfl) rfl fun a w hS => ?_
  refine zW hS rfl rfl rfl hb (js rfl rfl rfl) rfl fun a w hS => ?_
  exact zn (hK _ _ (hS.up 2 rfl rfl))
 refine qJ hS rfl Tryd.call65 (xb hG K ((decide (MU > (286 : Int))) || (decide (M7 > (30 : Int)))) (3 : Int) (hS.st.part 0 [0, 1, 2] (by kernel_rfl)) (qt hM) (fun  w hM  hst => qz hS.ev hst.appF rfl fun hS => ?_) (fun v w hk hst => xo (qD (⟨hS.ev.defs, hpan _ _ hk hst.appF.frame⟩))))
 replace hS : Ss _ _ _ H [MS, NF, MT] F _ _ := hS
 refine qA <| qm <| QF ((List.replicate 19 (0 : Int)).flatMap (ci .i64)) hS Tryd.zeroValue87 rfl rfl fun w Nd Pr N5 hS => qA <| zm (fun a w => ∃ (M4 : Int) (Ni : qk) (MY : (List Int)) (M0 : qk), Ss 64 [] [(0, qL MZ 0), (4, .int .i64 MU), (5, .int .i64 M7), (7, qL Nd 0)] H [MS, Ni, MT, M0] F a w ∧ (xM Ni MW ([.int .i64 M4, xi MR.Reader_.text_]) 118) ∧ (MY.length = 19) ∧ (xM M0 Nd (MY.flatMap (ci .i64)) 87) ∧ (zb.j2 K MR MU M7 M4 MY).wp kr kp) (fun PM N8 => ?_) ?_
 ·refine wp_seq ?_
  refine zP <| sO hS (GA rfl hG.g3 (by rfl) Tryd.isAgg87 Tryd.sizeOf87) rfl fun hS => sM hS rfl fun hS => qA <| xS <| zv (fun N1 a w => ∃ (MV : Int) (Ng : qk) (MX : (List Int)) (Nh : qk) (Nl : Int), Ss 64 [] [(0, qL MZ 0), (4, .int .i64 MU), (5, .int .i64 M7), (6, .int .i64 Nk), (7, qL Nd 0), (27, .agg ⟨tab_inflate_order.flatMap (ci .i64)⟩), (28, .int .i64 Nl)] H [MS, Ng, MT, Nh] F a w ∧ (xM Ng MW ([.int .i64 MV, xi MR.Reader_.text_]) 118) ∧ (MX.length = 19) ∧ (xM Nh Nd (MX.flatMap (ci .i64)) 87) ∧ (zb.l1 K MR MU M7 Nk N1 MV MX Nl).wp kr kp) K ?_ ?_ ?_
  ·exact ⟨NN, NF, (List.replicate 19 (0 : Int)), Pr, (0 : Int), hS.to [1, 2, 3, 0] (by kernel_rfl) ⟨rfl, rfl, rfl, rfl, rfl, rfl, rfl, trivial⟩, Pw, (List.length_replicate ..), N5, hM⟩
  ·intro a w hI; obtain ⟨_, _, _, _, _, _, _, _, _, hM⟩ := hI; exact zt hM
  ·intro N1 a w hI PL NI
   obtain ⟨MV, Ng, MX, Nh, Nl, hS, Nw, Nm, Nx, hM⟩ := hI
   rw [zb.l1] at hM
   refine qm <| sB hS rfl fun hS => qA <| wp_seq <| qF hS rfl hM (fun Pb hM => ?_) (fun Pb hM => ?_)
   ·refine wp_skip ?_
    refine qe <| wp_seq <| xS <| qm <| sM hS rfl fun hS => ?_
    obtain ⟨Ph, hM⟩ := qK hM
    refine sO hS (Mc rfl rfl Tryd.runUnderlying87 Tryd.isAgg3 Tryd.sizeOf3 (fun _ => rfl) Qf Ph rfl) rfl fun hS => sA hS rfl fun hS => zG (v := Value.int .i64) (x0 := (rd tab_inflate_order Nl)) hS (xD rfl) rfl fun PN a w hz hS => ?_
    have hM := qB hz hM; clear hz
    refine qA <| qm <| sM hS rfl fun hS => sM hS rfl fun hS => sB hS rfl fun hS => qA <| qF hS rfl hM (fun Pc hM => ?_) (fun Pc hM => ?_)
    ·refine zP ?_
     refine sM hS rfl fun hS => sM hS rfl fun hS => qJ hS rfl Tryd.call60 (z4 hG K (qx.mk (qG.mk (qr.mk MV) MR.Reader_.text_) MR.out_ MR.limit_) (3 : Int) MZ MS MW Ng M5 M6 MT M8 Nw M9 (hS.st.part 3 [0, 1, 2, 3] (by kernel_rfl)) (qt hM) (fun PF NO NV w hM Px hst => qz hS.ev hst.appF rfl fun hS => ?_) (fun v w hk hst => xo (zQ (qD (qD (zQ (qD (⟨hS.ev.defs, hpan _ _ hk hst.appF.frame⟩))))))))
     replace hS : Ss _ _ _ H [MS, NV, MT, Nh] F _ _ := hS
     obtain ⟨NJ, hM⟩ := qK hM
     refine sO hS (V5 rfl rfl Tryd.runUnderlying87 Tryd.sizeOf3 NJ) rfl fun hS => Gp (xs := MX) (g := (ci .i64)) (pre := []) (post := []) 3 (PF) hS rfl rfl Nx rfl (by simp) rfl (fun _ => rfl) (y9 Nm NJ) rfl Tryd.sizeOf3 (xJ _) fun Nz w NW hz Ny hS => ?_
     have Pk : Nz.length = 19 := by rw [hz, List.length_set]; exact Nm
     have hM := qB hz hM; clear hz
     replace Ny : xM NW Nd (Nz.flatMap (ci .i64)) 87 := by simpa using Ny
     refine zn <| zy (qe ?_)
     refine zP <| sB hS rfl fun hS => sM hS rfl fun hS => zn <| qe ?_
     exact NI _ _ ⟨NO, NV, Nz, NW, (qh (Nl + (1 : Int))), hS.to [0, 1, 2, 3] (by kernel_rfl) ⟨rfl, rfl, rfl, rfl, rfl, rfl, rfl, trivial⟩, Px, Pk, Ny, hM⟩
    ·refine wp_skip ?_
     refine zy (qe ?_)
     refine zP <| sB hS rfl fun hS => sM hS rfl fun hS => zn <| qe ?_
     exact NI _ _ ⟨MV, Ng, MX, Nh, (qh (Nl + (1 : Int))), hS.to [0, 1, 2, 3] (by kernel_rfl) ⟨rfl, rfl, rfl, rfl, rfl, rfl, rfl, trivial⟩, Nw, Nm, Nx, hM⟩
   ·refine wp_exit ?_
    refine qE (qE (zd (qe ?_)))
    exact N8 _ _ ⟨MV, Ng, MX, Nh, hS.to [0, 1, 2, 3] (by kernel_rfl) ⟨rfl, rfl, rfl, rfl, trivial⟩, Nw, Nm, Nx, hM⟩
 ·intro a w hI
  obtain ⟨M4, Ni, MY, M0, hS, N6, Nn, NH, hM⟩ := hI
  rw [zb.j2] at hM
  refine qm <| sO hS (YG (xs := MY) (g := (ci .i64)) (pre := []) (post := []) 3 rfl NH rfl (by simp) rfl (xf (g := (ci .i64)) (sz := 1) (fun _ => rfl) Nn) Tryd.isAgg87 Tryd.sizeOf87) rfl fun hS => sO hS (Bb (([0, 0, 0, 0, 0, 0, 0, 0, 0, 0, 0, 0, 0, 0, 0, 0, 0, 0, 0] : List Int).flatMap (ci .i64)) Tryd.zeroValue87 Tryd.runUnderlying87 Tryd.sizeOf3 rfl (by kernel_rfl)) rfl fun hS => sO hS (Gx rfl rfl Tryd.runUnderlying87 Tryd.runUnderlying3 Tryd.sizeOf3 Tryd.isAgg3 Nn rfl Tryd.eqGuardType87 rfl) rfl fun hS => qJ hS rfl Tryd.call65 (xb hG K (MY == ([0, 0, 0, 0, 0, 0, 0, 0, 0, 0, 0, 0, 0, 0, 0, 0, 0, 0, 0] : List Int)) (3 : Int) (hS.st.part 0 [0, 1, 2, 3] (by kernel_rfl)) (qt hM) (fun  w hM  hst => qz hS.ev hst.appF rfl fun hS => ?_) (fun v w hk hst => xo (qD (⟨hS.ev.defs, hpan _ _ hk hst.appF.frame⟩))))
  replace hS : Ss _ _ _ H [MS, Ni, MT, M0] F _ _ := hS
  refine qA <| qm <| sM hS rfl fun hS => sM hS rfl fun hS => sM hS rfl fun hS => sB hS rfl fun hS => sO hS (L0 rfl Tryd.runUnderlying87 Tryd.sizeOf3 Nn rfl) rfl fun hS => qJ hS rfl Tryd.call83 (y5 hG K MY (some ⟨Nd, 0, none⟩) (19) (NH.rdF (i := 3) rfl rfl) (Nat.le_of_eq Nn) (hS.st.part 0 [0, 1, 2, 3] (by kernel_rfl)) (qt hM) (fun PJ PO Ps w hM Py hst => qz hS.ev hst.appF rfl fun hS => ?_) (fun v w hk hst => xo (qD (⟨hS.ev.defs, hpan _ _ hk hst.appF.frame⟩))))
  replace hS : Ss _ _ _ H [Ps, MS, Ni, MT, M0] F _ _ := hS
  obtain ⟨PG, Pn, hM⟩ := Z7 hM
  obtain ⟨Pp, hA, N9⟩ := Py.get Pn
  obtain ⟨Nt, Po, Pq, Nu, hF, N7, Pm, Pa⟩ := N9
  subst hA; subst hF
  replace hS := hS.front [0, 1, 2, 3, 4] (by kernel_rfl)
  replace hS := hS.splitF
  refine qJ hS rfl Tryd.call84 (Qq hG K (qx.mk (qG.mk (qr.mk M4) MR.Reader_.text_) MR.out_ MR.limit_) (qh (MU + M7)) PG MZ MS MW Ni M5 M6 MT Pp Nt Po Pq Nu M8 N6 M9 N7 Pm Pa (hS.st.part 5 [2, 3, 4, 0, 1, 5] (by kernel_rfl)) (qt hM) (fun M3 Nf Na NC NP Nv w hM Nj Pz hst => qz hS.ev hst.appF rfl fun hS => ?_) (fun v w hk hst => xo (qD (⟨hS.ev.defs, hpan _ _ hk hst.appF.frame⟩))))
  replace hS : Ss _ _ _ H [NC, Nt, Nu, MS, Nv, MT, M0] F _ _ := hS
  refine sA hS rfl fun hS => qA <| qm <| sM hS rfl fun hS => ?_
  obtain ⟨NK, hM⟩ := qK hM
  refine sO hS (yv rfl rfl Tryd.runUnderlying66 Tryd.sizeOf3 (Nj.rd (i := 0) rfl) (fun _ => rfl) rfl NK) rfl fun hS => sO hS (yG rfl (Nj.rd (i := 0) rfl) (fun _ => rfl) NK rfl Tryd.isAgg3) rfl fun hS => sB hS rfl fun hS => qJ hS rfl Tryd.call65 (xb hG K ((rd Na (256 : Int)) == (0 : Int)) (3 : Int) (hS.st.part 0 [0, 1, 2, 3, 4, 5, 6] (by kernel_rfl)) (qt hM) (fun  w hM  hst => qz hS.ev hst.appF rfl fun hS => ?_) (fun v w hk hst => xo (qD (⟨hS.ev.defs, hpan _ _ hk hst.appF.frame⟩))))
  replace hS : Ss _ _ _ H [NC, Nt, Nu, MS, Nv, MT, M0] F _ _ := hS
  refine qA <| wp_seq ?_
  obtain ⟨Pi, hM⟩ := qK hM
  obtain ⟨Nb, No, Nr, hz, Pf, Pd, NQ⟩ := LR (g := (ci .i64)) (A := M3) Tryd.prog Tryd.runUnderlying66 Tryd.sizeOf3 (fun _ => rfl) (Nj.cap (fun _ => rfl) rfl) Pi
  replace hM := qB hz hM; clear hz
  obtain ⟨Pj, hM⟩ := qK hM
  obtain ⟨Nc, Np, Ns, hz, Pg, Pe, ND⟩ := LR (g := (ci .i64)) (A := M3) Tryd.prog Tryd.runUnderlying66 Tryd.sizeOf3 (fun _ => rfl) (Nj.cap (fun _ => rfl) rfl) Pj
  replace hM := qB hz hM; clear hz
  refine za (vals := [some (.slice M3 Na.length Nf), some (.int .i64 MU), some (.slice No Nb.length Nr), none, some (.slice M3 Na.length Nf), some (.int .i64 MU), some (.slice Np Nc.length Ns), none, none, none]) hS xG rfl ?_
  intro l w ho hcl hA hst
  refine jg hA hst ho hcl xx xH 3 [0, 1, 2, 4, 5, 6] rfl rfl rfl rfl rfl (by exact ⟨nM rfl, nM rfl, nQ rfl (by exact qW (NQ rfl Lj (DK rfl)) rfl), nM rfl, nM rfl, nQ rfl (by exact qW (ND rfl (G2 rfl) GV) rfl), trivial⟩) fun D l a w ho hcl hav hpre hm hE hk hA hst => ?_
  have hS := (Ss.mk hE hst).env2 (e' := [(58, .slice No Nb.length Nr)]) ⟨rfl, trivial⟩
  refine qQ rfl <| qJ hS rfl Tryd.call83 (y5 hG K Nb No Nr (Pf _ _ _ (Nj.rdF (i := 0) rfl)) Pd (hS.st.part 0 [0, 1, 2, 3, 4, 5, 6] (by kernel_rfl)) (qt hM) (fun Nq PH NG w hM PA hst => qz hS.ev hst.appF rfl fun hS => ?_) (fun v w hk hst => xo (qD (qD (⟨hS.ev.defs, hpan _ _ hk hst.appF.frame⟩)))))
  replace hS : Ss _ _ _ H [NG, NC, Nt, Nu, MS, Nv, MT, M0] F _ _ := hS
  refine qA ?_
  replace hst := hS.st
  obtain ⟨hcl, hmust, hav2, hA⟩ := dn (vals' := [some (.slice M3 Na.length Nf), some (.int .i64 MU), some (.slice No Nb.length Nr), some (.pointer Nq), some (.slice M3 Na.length Nf), some (.int .i64 MU), some (.slice Np Nc.length Ns), none, none, none]) 3 [(2, 3), (0, 2), (1, 2)] hA hcl hav hm hpre hk rfl rfl rfl rfl rfl rfl rfl
  clear hm hav
  refine jg hA hst ho hcl hav2 hmust 7 [4, 5, 6] rfl rfl rfl rfl rfl (by exact ⟨nM rfl, nM rfl, nQ rfl (by exact qW (ND rfl (G2 rfl) GV) rfl), trivial⟩) fun D l a w ho hcl hav hpre hm hE hk hA hst => ?_
  have hS := (Ss.mk hE hst).env2 (e' := [(62, .slice Np Nc.length Ns)]) ⟨rfl, trivial⟩
  refine qQ rfl <| qJ hS rfl Tryd.call83 (y5 hG K Nc Np Ns (Pg _ _ _ (Nj.rdF (i := 1) rfl)) Pe (hS.st.part 0 [0, 1, 2, 3, 4, 5, 6, 7] (by kernel_rfl)) (qt hM) (fun NA PI NX w hM PB hst => qz hS.ev hst.appF rfl fun hS => ?_) (fun v w hk hst => xo (qD (qD (⟨hS.ev.defs, hpan _ _ hk hst.appF.frame⟩)))))
  replace hS : Ss _ _ _ H [NX, NG, NC, Nt, Nu, MS, Nv, MT, M0] F _ _ := hS
  refine qA ?_
  replace hst := hS.st
  obtain ⟨hcl, hmust, hav2, hA⟩ := dn (vals' := [some (.slice M3 Na.length Nf), some (.int .i64 MU), some (.slice No Nb.length Nr), some (.pointer Nq), some (.slice M3 Na.length Nf), some (.int .i64 MU), some (.slice Np Nc.length Ns), some (.pointer NA), some (.pointer Nq), some (.pointer NA)]) 7 [(3, 7), (6, 7), (2, 3), (4, 6), (5, 6), (0, 2), (1, 2)] hA hcl hav hm hpre hk rfl rfl rfl rfl rfl rfl rfl
  clear hm hav
  refine ym hA hst ho hcl hmust [8, 9] rfl rfl rfl (by exact ⟨nA rfl, nA rfl, trivial⟩) fun a w hS => ?_
  replace hS := hS.env2 (e' := [(2, .pointer Nq), (3, .pointer NA)]) ⟨rfl, rfl, trivial⟩
  refine qe <| wp_ret ?_
  exact zD (rs := [2, 3]) hS rfl rfl (hret Nq PH NG NA PI NX NP Nv _ (q8 hM) PA PB Pz (hS.st.pick [1, 0, 5, 6, 7] (by kernel_rfl)))
theorem uQ {H : xT} {F : List qk} {w : World} {R : Ending → World → Prop} {kr : (Bool × Int × (List Int)) → Prop} {kp : Value → Prop} (hG : Gl H) (K : Nat) (MR : qx) (M0 : Nat) (MS : qk) (MX : Nat) (Nx : qk) (MY : Option Addr) (M3 : Nat) (MT : qk) (MV : xM MS M0 ([qL MX 0, .slice MY MR.out_.length M3, .int .i64 MR.limit_]) 97) (Pe : xM Nx MX ([.int .i64 MR.Reader_.place_.at_, xi MR.Reader_.text_]) 118) (MW : xj 5 (ci .u8) 1 MY MR.out_ M3 MT)
    (hS : St w H [MS, Nx, MT] F) (hm : (yj.m K MR).wp kr kp)
    (hret : ∀ (Nu : Bool) (M6 : Int) (Nr : qk) (Nd : Option Addr) (Nf : Nat) (M4 : (List Int)) (Ns : qk) (Nt : qk) (w : World), kr (Nu, M6, M4) → (xM Nr MX ([.int .i64 M6, xi MR.Reader_.text_]) 118) → (xj 5 (ci .u8) 1 Nd M4 Nf Ns) → (xM Nt M0 ([qL MX 0, .slice Nd M4.length Nf, .int .i64 MR.limit_]) 97) → St w H [Nt, Nr, Ns] F → R (.returned (.bool Nu)) w)
    (hpan : ∀ v w, kp v → St w H [] F → R (.panicked [⟨v, false, false⟩]) w) :
    Calls Tryd.prog 43 ⟨[qL M0 0]⟩ w R := by
 refine enter Tryd.func43 rfl Tryd.ntmps43 rfl hS fun a w hS => ?_
 have hM := hm; clear hm
 rw [yj.m] at hM
 refine qm <| sA hS rfl fun hS => qA <| qm <| sM hS rfl fun hS => qJ hS rfl Tryd.call60 (z4 hG K MR (1 : Int) M0 MS MX Nx MY M3 MT MV Pe MW (hS.st.part 3 [0, 1, 2] (by kernel_rfl)) (qt hM) (fun PM Nv NX w hM PF hst => qz hS.ev hst.appF rfl fun hS => ?_) (fun v w hk hst => xo (qD (⟨hS.ev.defs, hpan _ _ hk hst.appF.frame⟩))))
 replace hS : Ss _ _ _ H [MS, NX, MT] F _ _ := hS
 refine sB hS rfl fun hS => zG (v := Value.bool) (x0 := (PM == (1 : Int))) hS (xD rfl) rfl fun MU a w hz hS => ?_
 have hM := qB hz hM; clear hz
 refine qA <| wp_seq <| qm <| sM hS rfl fun hS => qJ hS rfl Tryd.call60 (z4 hG K (qx.mk (qG.mk (qr.mk Nv) MR.Reader_.text_) MR.out_ MR.limit_) (2 : Int) M0 MS MX NX MY M3 MT MV PF MW (hS.st.part 3 [0, 1, 2] (by kernel_rfl)) (qt hM) (fun NK MZ M5 w hM Na hst => qz hS.ev hst.appF rfl fun hS => ?_) (fun v w hk hst => xo (qD (qD (⟨hS.ev.defs, hpan _ _ hk hst.appF.frame⟩)))))
 replace hS : Ss _ _ _ H [MS, M5, MT] F _ _ := hS
 refine qA <| xS <| qm <| sB hS rfl fun hS => zG (v := Value.bool) (x0 := (NK == (0 : Int))) hS (xD rfl) rfl fun PW a w hz hS => ?_
 have hM := qB hz hM; clear hz
 refine qA <| qF hS rfl hM (fun Pm hM => ?_) (fun Pm hM => ?_)
 ·refine zP ?_
  refine sM hS rfl fun hS => qJ hS rfl Tryd.call61 (uz hG K (qx.mk (qG.mk (qr.mk MZ) MR.Reader_.text_) MR.out_ MR.limit_) M0 MS MX M5 MY M3 MT MV Na MW (hS.st.part 3 [0, 1, 2] (by kernel_rfl)) (qt hM) (fun Nw NY Pv PA NJ NZ N0 w hM PG PH PI hst => qz hS.ev hst.appF rfl fun hS => ?_) (fun v w hk hst => xo (zQ (qD (⟨hS.ev.defs, hpan _ _ hk hst.appF.frame⟩)))))
  replace hS : Ss _ _ _ H [N0, NY, NZ] F _ _ := hS
  refine zn <| zy (qe ?_)
  refine qm <| sM hS rfl fun hS => sA hS rfl fun hS => qA <| wp_ret ?_
  exact zD (rs := [2]) hS rfl rfl (hret MU Nw NY Pv PA NJ NZ N0 _ (q8 hM) PG PH PI (hS.st.pick [0, 1, 2] (by kernel_rfl)))
 ·refine wp_seq ?_
  refine zP <| sB hS rfl fun hS => zG (v := Value.bool) (x0 := (NK == (1 : Int))) hS (xD rfl) rfl fun PX a w hz hS => ?_
  have hM := qB hz hM; clear hz
  refine qA <| qF hS rfl hM (fun Pn hM => ?_) (fun Pn hM => ?_)
  ·refine zP ?_
   refine sM hS rfl fun hS => qJ hS rfl Tryd.call63 (Xp hG K  (hS.st.part 0 [0, 1, 2] (by kernel_rfl)) (qt hM) (fun PU PY PD PV PZ PE w hM PJ PL hst => qz hS.ev hst.appF rfl fun hS => ?_) (fun v w hk hst => xo (zQ (qD (⟨hS.ev.defs, hpan _ _ hk hst.appF.frame⟩)))))
   replace hS : Ss _ _ _ H [PD, PE, MS, M5, MT] F _ _ := hS
   refine sO hS (ex rfl rfl) rfl fun hS => sO hS (ex rfl rfl) rfl fun hS => ?_
   obtain ⟨PN, Pq, hM⟩ := Z7 hM
   obtain ⟨Py, hA, Ph⟩ := PJ.get Pq
   obtain ⟨N1, Pw, PB, N2, hF, Pf, Po, Pj⟩ := Ph
   subst hA; subst hF
   replace hS := hS.front [0, 1, 2, 3, 4] (by kernel_rfl)
   replace hS := hS.splitF
   obtain ⟨PO, Pr, hM⟩ := Z7 hM
   obtain ⟨Pz, hA, Pi⟩ := PL.get Pr
   obtain ⟨N3, Px, PC, N4, hF, Pg, Pp, Pk⟩ := Pi
   subst hA; subst hF
   replace hS := hS.front [2, 0, 1, 3, 4, 5] (by kernel_rfl)
   replace hS := hS.splitF
   refine qJ hS rfl Tryd.call62 (jx hG K (qx.mk (qG.mk (qr.mk MZ) MR.Reader_.text_) MR.out_ MR.limit_) PN PO M0 MS MX M5 MY M3 MT Py N1 Pw PB N2 Pz N3 Px PC N4 MV Na MW Pf Po Pj Pg Pp Pk (hS.st.part 7 [4, 5, 6, 2, 3, 0, 1] (by kernel_rfl)) (qt hM) (fun M7 Ng NL NR Nb Nh Ni w hM N5 N6 N7 hst => qz hS.ev hst.appF rfl fun hS => ?_) (fun v w hk hst => xo (zQ (qD (⟨hS.ev.defs, hpan _ _ hk hst.appF.frame⟩)))))
   replace hS : Ss _ _ _ H [N3, N4, N1, N2, Ni, Ng, Nh] F _ _ := hS
   refine zn <| zy (qe ?_)
   refine qm <| sM hS rfl fun hS => sA hS rfl fun hS => qA <| wp_ret ?_
   exact zD (rs := [2]) hS rfl rfl (hret MU M7 Ng NL NR Nb Nh Ni _ (q8 hM) N5 N6 N7 (hS.st.pick [4, 5, 6] (by kernel_rfl)))
  ·refine wp_seq ?_
   refine zP <| sB hS rfl fun hS => zG (v := Value.bool) (x0 := (NK == (2 : Int))) hS (xD rfl) rfl fun PR a w hz hS => ?_
   have hM := qB hz hM; clear hz
   refine qA <| qF hS rfl hM (fun NE hM => ?_) (fun NE hM => ?_)
   ·refine zP ?_
    refine sM hS rfl fun hS => sM hS rfl fun hS => qJ hS rfl Tryd.call64 (uk hG K (qx.mk (qG.mk (qr.mk MZ) MR.Reader_.text_) MR.out_ MR.limit_) M0 MS MX M5 MY M3 MT MV Na MW (hS.st.part 3 [0, 1, 2] (by kernel_rfl)) (qt hM) (fun PP PS NV PQ PT NW M8 Nj w hM N8 N9 Pa hst => qz hS.ev hst.appF rfl fun hS => ?_) (fun v w hk hst => xo (zQ (qD (⟨hS.ev.defs, hpan _ _ hk hst.appF.frame⟩)))))
    replace hS : Ss _ _ _ H [NV, NW, MS, Nj, MT] F _ _ := hS
    refine sO hS (ex rfl rfl) rfl fun hS => sO hS (ex rfl rfl) rfl fun hS => ?_
    obtain ⟨Ps, NH, hM⟩ := Z7 hM
    obtain ⟨NP, hA, NA⟩ := N8.get NH
    obtain ⟨Nk, NM, NS, Nl, hF, Ny, NF, NC⟩ := NA
    subst hA; subst hF
    replace hS := hS.front [0, 1, 2, 3, 4] (by kernel_rfl)
    replace hS := hS.splitF
    obtain ⟨Pt, NI, hM⟩ := Z7 hM
    obtain ⟨NQ, hA, NB⟩ := N9.get NI
    obtain ⟨Nm, NN, NT, Nn, hF, Nz, NG, ND⟩ := NB
    subst hA; subst hF
    replace hS := hS.front [2, 0, 1, 3, 4, 5] (by kernel_rfl)
    replace hS := hS.splitF
    refine qJ hS rfl Tryd.call62 (jx hG K (qx.mk (qG.mk (qr.mk M8) MR.Reader_.text_) MR.out_ MR.limit_) Ps Pt M0 MS MX Nj MY M3 MT NP Nk NM NS Nl NQ Nm NN NT Nn MV Pa MW Ny NF NC Nz NG ND (hS.st.part 7 [4, 5, 6, 2, 3, 0, 1] (by kernel_rfl)) (qt hM) (fun M9 No NO NU Nc Np Nq w hM Pb Pc Pd hst => qz hS.ev hst.appF rfl fun hS => ?_) (fun v w hk hst => xo (zQ (qD (⟨hS.ev.defs, hpan _ _ hk hst.appF.frame⟩)))))
    replace hS : Ss _ _ _ H [Nm, Nn, Nk, Nl, Nq, No, Np] F _ _ := hS
    refine zn <| zy (qe ?_)
    refine qm <| sM hS rfl fun hS => sA hS rfl fun hS => qA <| wp_ret ?_
    exact zD (rs := [2]) hS rfl rfl (hret MU M9 No NO NU Nc Np Nq _ (q8 hM) Pb Pc Pd (hS.st.pick [4, 5, 6] (by kernel_rfl)))
   ·refine zP ?_
    refine qJ hS rfl Tryd.call65 (xb hG K true (3 : Int) (hS.st.part 0 [0, 1, 2] (by kernel_rfl)) (qt hM) (fun  w hM  hst => qz hS.ev hst.appF rfl fun hS => ?_) (fun v w hk hst => xo (zQ (qD (⟨hS.ev.defs, hpan _ _ hk hst.appF.frame⟩)))))
    replace hS : Ss _ _ _ H [MS, M5, MT] F _ _ := hS
    refine zn <| zy (qe ?_)
    refine qm <| sM hS rfl fun hS => sA hS rfl fun hS => qA <| wp_ret ?_
    exact zD (rs := [2]) hS rfl rfl (hret MU MZ M5 MY M3 MR.out_ MT MS _ (q8 hM) Na MW MV (hS.st.pick [0, 1, 2] (by kernel_rfl)))
theorem ZE {H : xT} {F : List qk} {w : World} {R : Ending → World → Prop} {kr : Unit → Prop} {kp : Value → Prop} (hG : Gl H) (K : Nat) (MR : qG) (MT : Nat) (MS : qk) (MU : xM MS MT ([.int .i64 MR.place_.at_, xi MR.text_]) 118)
    (hS : St w H [MS] F) (hm : (vG.m K MR).wp kr kp)
    (hret : ∀ (w : World), kr () → St w H [MS] F → R (.returned (.int .i64 MR.place_.at_)) w) :
    Calls Tryd.prog 44 ⟨[qL MT 0]⟩ w R := by
 refine enter Tryd.func44 rfl Tryd.ntmps44 rfl hS fun a w hS => ?_
 have hM := hm; clear hm
 rw [vG.m] at hM
 refine qm <| sA hS rfl fun hS => qA <| wp_seq <| qm <| sM hS rfl fun hS => sO hS (XR rfl rfl Tryd.runUnderlying94) rfl fun hS => qA <| XC hS rfl <| wp_skip <| qe <| qm <| sM hS rfl fun hS => sO hS (yy rfl) rfl fun hS => sO hS (xv rfl Tryd.runUnderlying118 rfl Tryd.sizeOf63 rfl) rfl fun hS => sO hS (xv rfl Tryd.runUnderlying63 rfl Tryd.sizeOf3 rfl) rfl fun hS => sO hS (x5 0 rfl MU rfl rfl Tryd.isAgg3) rfl fun hS => sA hS rfl fun hS => qA <| wp_ret ?_
 exact zD (rs := [2]) hS rfl rfl (hret _ (q8 hM) (hS.st.pick [0] (by kernel_rfl)))
theorem Zn {H : xT} {F : List qk} {w : World} {R : Ending → World → Prop} {kr : ((List UInt8) × Int × Int) → Prop} {kp : Value → Prop} (hG : Gl H) (K : Nat) (Np : List UInt8) (MU : Int)
    (hS : St w H [] F) (hm : (zA.m K Np MU).wp kr kp)
    (hret : ∀ (Nx : List UInt8) (Ny : Int) (Nz : Int) (w : World), kr (Nx, Ny, Nz) → St w H [] F → R (.returned (.tuple ⟨[xi Nx, .int .i64 Ny, .int .i64 Nz]⟩)) w) :
    Calls Tryd.prog 21 ⟨[xi Np, .int .i64 MU]⟩ w R := by
 refine GM Tryd.func21 rfl Tryd.ntmps21 rfl hS fun a w hS => ?_
 have hM := hm; clear hm
 rw [zA.m] at hM
 refine qm <| QF ([xi ([] : List UInt8)]) hS Tryd.zeroValue9 rfl rfl fun w Nm NP NG hS => QF ([.int .i64 (0 : Int)]) hS Tryd.zeroValue3 rfl rfl fun w Nn NQ NH hS => QF ([.int .i64 (0 : Int)]) hS Tryd.zeroValue28 rfl rfl fun w No Ng Nk hS => qA <| wp_seq <| qm <| sM hS rfl fun hS => sB hS rfl fun hS => sM hS rfl fun hS => yJ 2 false 10 (b := (decide (MU < (0 : Int)))) (r := (decide (MU > (1073741824 : Int)))) hS rfl rfl rfl rfl rfl rfl rfl (fun hb a w hS K hK => ?_) rfl fun a w hS => ?_
 ·refine zW hS rfl rfl rfl hb (mv rfl) rfl fun a w hS => ?_
  refine zW hS rfl rfl rfl hb (js rfl rfl rfl) rfl fun a w hS => ?_
  exact zn (hK _ _ (hS.up 2 rfl rfl))
 refine qA <| qF hS rfl hM (fun N0 hM => ?_) (fun N0 hM => ?_)
 ·refine wp_seq ?_
  refine zP <| J5 2 ([xi ([] : List UInt8)]) hS rfl rfl NG rfl rfl rfl rfl Tryd.sizeOf9 fun w Pb NS hS => J5 1 ([.int .i64 (0 : Int)]) hS rfl rfl NH rfl rfl rfl rfl Tryd.sizeOf3 fun w Pc NT hS => J5 0 ([.int .i64 (1 : Int)]) hS rfl rfl Nk rfl rfl rfl rfl Tryd.sizeOf28 fun w Pd NU hS => qA <| wp_ret <| zl ?_
  exact Gk hS.ev (ZS (vs := [xi ([] : List UInt8), .int .i64 (0 : Int), .int .i64 (1 : Int)]) hS.ev hS.st rfl (by exact ⟨Gc 2 rfl NS rfl rfl Tryd.isAgg9, Gc 1 rfl NT rfl rfl Tryd.isAgg3, Gc 0 rfl NU rfl rfl Tryd.isAgg28, trivial⟩) (hret ([] : List UInt8) (0 : Int) (1 : Int) _ (q8 hM) (hS.st.pick [] (by kernel_rfl))))
 ·refine wp_skip ?_
  refine qe <| qm <| sO hS (Me rfl rfl) rfl fun hS => Gj hS rfl fun a w hS => ?_
  obtain ⟨M5, NN, hM⟩ := Dr hM
  have NO : ∀ v w a, M5 v → Ev 35 [⟨.fn (.func 41) ⟨[qL Nm 0, qL Nn 0, qL No 0]⟩, ⟨[]⟩⟩] [(4, qL Nm 0), (5, qL Nn 0), (6, qL No 0)] a → St w H [NP, NQ, Ng] F → bodyPostD Tryd.prog Tryd.f21 R (.panic [⟨v, false, false⟩]) a w := by
   intro v w a hk Nv hst
   have hM := NN v hk
   rw [zA.h1] at hM
   obtain ⟨MV, N1, hM⟩ := Z7 hM
   cases GJ N1
   refine Lc Nv hst Tryd.call41 Tryd.func41 rfl Tryd.ntmps41 rfl rfl rfl fun a w hS => qm <| sM hS rfl fun hS => sO hS (Mz .neq rfl rfl Tryd.runUnderlying20 rfl) rfl fun hS => qA <| Ki hS rfl <| za (vals := [some (.iface 92 (.agg ⟨[.int .i64 MV]⟩)), some (.agg ⟨[.int .i64 MV]⟩), some (.int .i64 MV), none, none, none]) hS xG rfl ?_
   intro l w ho hcl hA hst
   refine jg hA hst ho hcl xx xH 3 [0, 1, 2] rfl rfl rfl rfl rfl (by exact ⟨nM rfl, nQ rfl (by exact qW (Mj rfl Tryd.runUnderlying92 rfl) rfl), nQ rfl (by exact qW (LB rfl Tryd.runUnderlying92 rfl Tryd.isAgg28 rfl) rfl), trivial⟩) fun D l a w ho hcl hav hpre hm hE hk hA hst => ?_
   have hS := (Ss.mk hE hst).env2 (e' := [(0, qL Nm 0)]) ⟨rfl, trivial⟩
   refine qQ rfl <| J5 0 ([xi ([] : List UInt8)]) hS rfl rfl NG rfl rfl rfl rfl Tryd.sizeOf9 fun w Pe NV hS => qA ?_
   replace hst := hS.st
   obtain ⟨hcl, hmust, hav2, hA⟩ := XQ (vals' := [some (.iface 92 (.agg ⟨[.int .i64 MV]⟩)), some (.agg ⟨[.int .i64 MV]⟩), some (.int .i64 MV), some undef, none, none]) 3 [] hA hcl hav hm hpre rfl rfl rfl rfl rfl
   clear hm hav
   refine jg hA hst ho hcl hav2 hmust 4 [0, 1, 2] rfl rfl rfl rfl rfl (by exact ⟨nM rfl, nQ rfl (by exact qW (Mj rfl Tryd.runUnderlying92 rfl) rfl), nQ rfl (by exact qW (LB rfl Tryd.runUnderlying92 rfl Tryd.isAgg28 rfl) rfl), trivial⟩) fun D l a w ho hcl hav hpre hm hE hk hA hst => ?_
   have hS := (Ss.mk hE hst).env2 (e' := [(1, qL Nn 0)]) ⟨rfl, trivial⟩
   refine qQ rfl <| J5 1 ([.int .i64 (0 : Int)]) hS rfl rfl NH rfl rfl rfl rfl Tryd.sizeOf3 fun w Pf NW hS => qA ?_
   replace hst := hS.st
   obtain ⟨hcl, hmust, hav2, hA⟩ := XQ (vals' := [some (.iface 92 (.agg ⟨[.int .i64 MV]⟩)), some (.agg ⟨[.int .i64 MV]⟩), some (.int .i64 MV), some undef, some undef, none]) 4 [(3, 4)] hA hcl hav hm hpre rfl rfl rfl rfl rfl
   clear hm hav
   refine jg hA hst ho hcl hav2 hmust 5 [0, 1, 2] rfl rfl rfl rfl rfl (by exact ⟨nM rfl, nQ rfl (by exact qW (Mj rfl Tryd.runUnderlying92 rfl) rfl), nQ rfl (by exact qW (LB rfl Tryd.runUnderlying92 rfl Tryd.isAgg28 rfl) rfl), trivial⟩) fun D l a w ho hcl hav hpre hm hE hk hA hst => ?_
   have hS := (Ss.mk hE hst).env2 (e' := [(2, qL No 0), (9, .int .i64 MV)]) ⟨rfl, rfl, trivial⟩
   refine qQ rfl <| J5 2 ([.int .i64 MV]) hS rfl rfl Nk rfl rfl rfl rfl Tryd.sizeOf28 fun w Pg NX hS => qA ?_
   replace hst := hS.st
   obtain ⟨hcl, hmust, hav2, hA⟩ := XQ (vals' := [some (.iface 92 (.agg ⟨[.int .i64 MV]⟩)), some (.agg ⟨[.int .i64 MV]⟩), some (.int .i64 MV), some undef, some undef, some undef]) 5 [(0, 5), (1, 5), (2, 5), (3, 5), (4, 5)] hA hcl hav hm hpre rfl rfl rfl rfl rfl
   clear hm hav
   refine ym hA hst ho hcl hmust [] rfl rfl rfl trivial fun a w hS => ?_
   replace hS := hS.env2 (e' := []) trivial
   exact Gw hS rfl (ZS (vs := [xi ([] : List UInt8), .int .i64 (0 : Int), .int .i64 MV]) Nv hS.st rfl (by exact ⟨Gc 0 rfl NV rfl rfl Tryd.isAgg9, Gc 1 rfl NW rfl rfl Tryd.isAgg3, Gc 2 rfl NX rfl rfl Tryd.isAgg28, trivial⟩) (hret ([] : List UInt8) (0 : Int) MV _ (q8 hM) (hS.st.pick [] (by kernel_rfl))))
  rw [zA.j2] at hM
  refine qA <| qm <| sM hS rfl fun hS => qJ hS rfl Tryd.call42 (Ub hG K Np (hS.st.part 0 [0, 1, 2] (by kernel_rfl)) (qt hM) (fun MW NR w hM N4 hst => qz hS.ev hst.appF rfl fun hS => ?_))
  replace hS : Ss _ _ _ H [NR, Ng, NQ, NP] F _ _ := hS
  refine sM hS rfl fun hS => sO hS (Xr ([qL MW 0, .slice none 0 0, .int .i64 MU]) [(0, 1), (1, 1), (2, 1)] Tryd.zeroValue97 Tryd.runUnderlying97 (by intro w; simp [Tryd.sizeOf3, Tryd.sizeOf32, Tryd.sizeOf94]) rfl rfl) rfl fun hS => bx ([qL MW 0, .slice none 0 0, .int .i64 MU]) hS rfl rfl rfl fun w MT N2 NY hS => ?_
  obtain ⟨N3, NZ, hS⟩ := hS.nilV 5 (ci .u8) 1
  refine sA hS rfl fun hS => qA <| zm (fun a w => ∃ (MR : Int) (M3 : qk) (MY : Option Addr) (MZ : Nat) (MS : (List Int)) (Nc : qk) (Nd : qk), Ss 35 [⟨.fn (.func 41) ⟨[qL Nm 0, qL Nn 0, qL No 0]⟩, ⟨[]⟩⟩] [(4, qL Nm 0), (5, qL Nn 0), (6, qL No 0), (7, qL MT 0)] H [NP, NQ, Ng, Nd, M3, Nc] F a w ∧ (xM M3 MW ([.int .i64 MR, xi Np]) 118) ∧ (xj 5 (ci .u8) 1 MY MS MZ Nc) ∧ (xM Nd MT ([qL MW 0, .slice MY MS.length MZ, .int .i64 MU]) 97) ∧ (zA.j4 K Np MR MS).wp kr M5) (fun N6 NK => ?_) ?_
  ·refine xS ?_
   refine zv (fun Nw a w => ∃ (M0 : Int) (M9 : qk) (M6 : Option Addr) (M8 : Nat) (MX : (List Int)) (Na : qk) (Nb : qk), Ss 35 [⟨.fn (.func 41) ⟨[qL Nm 0, qL Nn 0, qL No 0]⟩, ⟨[]⟩⟩] [(4, qL Nm 0), (5, qL Nn 0), (6, qL No 0), (7, qL MT 0)] H [NP, NQ, Ng, Nb, M9, Na] F a w ∧ (xM M9 MW ([.int .i64 M0, xi Np]) 118) ∧ (xj 5 (ci .u8) 1 M6 MX M8 Na) ∧ (xM Nb MT ([qL MW 0, .slice M6 MX.length M8, .int .i64 MU]) 97) ∧ (zA.l3 K Np MU Nw M0 MX).wp kr M5) K ?_ ?_ ?_
   ·exact ⟨(0 : Int), NR, none, 0, ([] : List Int), N3, N2, hS.to [5, 4, 3, 1, 2, 0] (by kernel_rfl) ⟨rfl, rfl, rfl, rfl, trivial⟩, N4, NZ, NY, hM⟩
   ·intro a w hI; obtain ⟨_, _, _, _, _, _, _, _, _, _, _, hM⟩ := hI; exact zt hM
   ·intro Nw a w hI N5 NJ
    obtain ⟨M0, M9, M6, M8, MX, Na, Nb, hS, NA, NL, NB, hM⟩ := hI
    rw [zA.l3] at hM
    refine wp_seq <| qm <| sM hS rfl fun hS => qJ hS rfl Tryd.call43 (uQ hG K (qx.mk (qG.mk (qr.mk M0) Np) MX MU) MT Nb MW M9 M6 M8 Na NB NA NL (hS.st.part 3 [3, 4, 5, 0, 1, 2] (by kernel_rfl)) (qt hM) (fun Pa M7 Nh Nq Nr Nf Ni Nj w hM Ns Nt Nu hst => qz hS.ev hst.appF rfl fun hS => ?_) (fun v w hk hst => xo (qD (qD (qD (zQ (qD (NO _ _ _ hk (hS.env2 (e' := [(4, qL Nm 0), (5, qL Nn 0), (6, qL No 0)]) ⟨rfl, rfl, rfl, trivial⟩).ev (hst.appF.pick [0, 1, 2] (by kernel_rfl))))))))))
    replace hS : Ss _ _ _ H [Nj, Nh, Ni, NP, NQ, Ng] F _ _ := hS
    refine sO hS (un rfl rfl) rfl fun hS => qA <| qF hS rfl hM (fun NM hM => ?_) (fun NM hM => ?_)
    ·refine wp_skip ?_
     refine qe <| xS <| wp_skip <| zy (qe ?_)
     exact NJ _ _ ⟨M7, Nh, Nq, Nr, Nf, Ni, Nj, hS.to [3, 4, 5, 0, 1, 2] (by kernel_rfl) ⟨rfl, rfl, rfl, rfl, trivial⟩, Ns, Nt, Nu, hM⟩
    ·refine wp_exit ?_
     refine qE (qE (zd (qe ?_)))
     exact NK _ _ ⟨M7, Nh, Nq, Nr, Nf, Ni, Nj, hS.to [3, 4, 5, 0, 1, 2] (by kernel_rfl) ⟨rfl, rfl, rfl, rfl, trivial⟩, Ns, Nt, Nu, hM⟩
  ·intro a w hI
   obtain ⟨MR, M3, MY, MZ, MS, Nc, Nd, hS, NC, Nl, M4, hM⟩ := hI
   rw [zA.j4] at hM
   refine wp_seq <| za (vals := [some (qL MT 0), some (qL MT 0), some (qL MT 1), some (.slice MY MS.length MZ), some (xi (MS.map ur)), some (qL MT 0), some (qL MT 0), some (qL MT 0), some (qL MW 0), none, none, none, none, none, none]) hS xG rfl ?_
   intro l w ho hcl hA hst
   refine jg hA hst ho hcl xx xH 9 [0, 1, 2, 3, 4, 5, 6, 7, 8] rfl rfl rfl rfl rfl (by exact ⟨nM rfl, nQ rfl (by exact qW (yy rfl) rfl), nQ rfl (by exact qW (xv rfl Tryd.runUnderlying97 rfl Tryd.sizeOf32 rfl) rfl), nQ rfl (by exact qW (x5 3 rfl M4 rfl rfl Tryd.isAgg32) rfl), nQ rfl (by exact qW (Lv rfl Tryd.runUnderlying32 Tryd.runUnderlying5 Tryd.runUnderlying9 (Nl.rd (i := 5) rfl)) rfl), nM rfl, nQ rfl (by exact qW (yy rfl) rfl), nQ rfl (by exact qW (xv rfl Tryd.runUnderlying97 rfl Tryd.sizeOf94 rfl) rfl), nQ rfl (by exact qW (x5 3 rfl M4 rfl rfl Tryd.isAgg94) rfl), trivial⟩) fun D l a w ho hcl hav hpre hm hE hk hA hst => ?_
   have hS := (Ss.mk hE hst).env2 (e' := [(31, qL MW 0)]) ⟨rfl, trivial⟩
   refine qQ rfl <| qJ hS rfl Tryd.call44 (ZE hG K (qG.mk (qr.mk MR) Np) MW M3 NC (hS.st.part 1 [4, 0, 1, 2, 3, 5] (by kernel_rfl)) (qt hM) (fun  w hM  hst => qz hS.ev hst.appF rfl fun hS => ?_))
   replace hS : Ss _ _ _ H [M3, NP, NQ, Ng, Nd, Nc] F _ _ := hS
   refine qA ?_
   replace hst := hS.st
   obtain ⟨hcl, hmust, hav2, hA⟩ := dn (vals' := [some (qL MT 0), some (qL MT 0), some (qL MT 1), some (.slice MY MS.length MZ), some (xi (MS.map ur)), some (qL MT 0), some (qL MT 0), some (qL MT 0), some (qL MW 0), some (.int .i64 MR), some (.int .i64 (qh (MR + (7 : Int)))), some (.int .i64 (yR .i64 (qh (MR + (7 : Int))) (8 : Int))), none, none, none]) 9 [(8, 9), (7, 8), (6, 7), (5, 6)] hA hcl hav hm hpre hk rfl rfl rfl rfl rfl rfl rfl
   clear hm hav
   refine jg hA hst ho hcl hav2 hmust 12 [0, 1, 2, 3, 4, 10, 11] rfl rfl rfl rfl rfl (by exact ⟨nM rfl, nQ rfl (by exact qW (yy rfl) rfl), nQ rfl (by exact qW (xv rfl Tryd.runUnderlying97 rfl Tryd.sizeOf32 rfl) rfl), nQ rfl (by exact qW (x5 4 rfl M4 rfl rfl Tryd.isAgg32) rfl), nQ rfl (by exact qW (Lv rfl Tryd.runUnderlying32 Tryd.runUnderlying5 Tryd.runUnderlying9 (Nl.rd (i := 5) rfl)) rfl), nB rfl, nQ rfl (by exact qW (quo rfl rfl rfl) rfl), trivial⟩) fun D l a w ho hcl hav hpre hm hE hk hA hst => ?_
   have hS := (Ss.mk hE hst).env2 (e' := [(4, qL Nm 0), (27, xi (MS.map ur))]) ⟨rfl, rfl, trivial⟩
   refine qQ rfl <| J5 1 ([xi (MS.map ur)]) hS rfl rfl NG rfl rfl rfl rfl Tryd.sizeOf9 fun w N7 ND hS => qA ?_
   replace hst := hS.st
   obtain ⟨hcl, hmust, hav2, hA⟩ := XQ (vals' := [some (qL MT 0), some (qL MT 0), some (qL MT 1), some (.slice MY MS.length MZ), some (xi (MS.map ur)), some (qL MT 0), some (qL MT 0), some (qL MT 0), some (qL MW 0), some (.int .i64 MR), some (.int .i64 (qh (MR + (7 : Int)))), some (.int .i64 (yR .i64 (qh (MR + (7 : Int))) (8 : Int))), some undef, none, none]) 12 [(0, 12), (1, 12), (2, 12), (3, 12), (4, 12), (9, 12), (8, 9), (7, 8), (6, 7), (5, 6)] hA hcl hav hm hpre rfl rfl rfl rfl rfl
   clear hm hav
   refine jg hA hst ho hcl hav2 hmust 13 [10, 11] rfl rfl rfl rfl rfl (by exact ⟨nB rfl, nQ rfl (by exact qW (quo rfl rfl rfl) rfl), trivial⟩) fun D l a w ho hcl hav hpre hm hE hk hA hst => ?_
   have hS := (Ss.mk hE hst).env2 (e' := [(5, qL Nn 0), (34, .int .i64 (yR .i64 (qh (MR + (7 : Int))) (8 : Int)))]) ⟨rfl, rfl, trivial⟩
   refine qQ rfl <| J5 2 ([.int .i64 (yR .i64 (qh (MR + (7 : Int))) (8 : Int))]) hS rfl rfl NH rfl rfl rfl rfl Tryd.sizeOf3 fun w N8 NE hS => qA ?_
   replace hst := hS.st
   obtain ⟨hcl, hmust, hav2, hA⟩ := XQ (vals' := [some (qL MT 0), some (qL MT 0), some (qL MT 1), some (.slice MY MS.length MZ), some (xi (MS.map ur)), some (qL MT 0), some (qL MT 0), some (qL MT 0), some (qL MW 0), some (.int .i64 MR), some (.int .i64 (qh (MR + (7 : Int)))), some (.int .i64 (yR .i64 (qh (MR + (7 : Int))) (8 : Int))), some undef, some undef, none]) 13 [(0, 13), (1, 13), (2, 13), (3, 13), (4, 13), (5, 13), (6, 13), (7, 13), (8, 13), (9, 13), (10, 13), (11, 13), (12, 13)] hA hcl hav hm hpre rfl rfl rfl rfl rfl
   clear hm hav
   refine jg hA hst ho hcl hav2 hmust 14 [] rfl rfl rfl rfl rfl trivial fun D l a w ho hcl hav hpre hm hE hk hA hst => ?_
   have hS := (Ss.mk hE hst).env2 (e' := [(6, qL No 0)]) ⟨rfl, trivial⟩
   refine qQ rfl <| J5 3 ([.int .i64 (0 : Int)]) hS rfl rfl Nk rfl rfl rfl rfl Tryd.sizeOf28 fun w N9 NF hS => qA ?_
   replace hst := hS.st
   obtain ⟨hcl, hmust, hav2, hA⟩ := XQ (vals' := [some (qL MT 0), some (qL MT 0), some (qL MT 1), some (.slice MY MS.length MZ), some (xi (MS.map ur)), some (qL MT 0), some (qL MT 0), some (qL MT 0), some (qL MW 0), some (.int .i64 MR), some (.int .i64 (qh (MR + (7 : Int)))), some (.int .i64 (yR .i64 (qh (MR + (7 : Int))) (8 : Int))), some undef, some undef, some undef]) 14 [(0, 14), (1, 14), (2, 14), (3, 14), (4, 14), (5, 14), (6, 14), (7, 14), (8, 14), (9, 14), (10, 14), (11, 14), (12, 14), (13, 14)] hA hcl hav hm hpre rfl rfl rfl rfl rfl
   clear hm hav
   refine ym hA hst ho hcl hmust [] rfl rfl rfl trivial fun a w hS => ?_
   replace hS := hS.env2 (e' := [(4, qL Nm 0), (5, qL Nn 0), (6, qL No 0)]) ⟨rfl, rfl, rfl, trivial⟩
   refine qe <| wp_ret ?_
   have NI := hS.ev
   refine Ld hS Tryd.call41 Tryd.func41 rfl Tryd.ntmps41 rfl rfl rfl fun a w hS => qm <| sM hS rfl fun hS => sO hS (MA .neq rfl Tryd.runUnderlying20 rfl) rfl fun hS => qA <| XC hS rfl <| wp_skip ?_
   exact Gw hS rfl (ZS (vs := [xi (MS.map ur), .int .i64 (yR .i64 (qh (MR + (7 : Int))) (8 : Int)), .int .i64 (0 : Int)]) NI hS.st rfl (by exact ⟨Gc 1 rfl ND rfl rfl Tryd.isAgg9, Gc 2 rfl NE rfl rfl Tryd.isAgg3, Gc 3 rfl NF rfl rfl Tryd.isAgg28, trivial⟩) (hret (MS.map ur) (yR .i64 (qh (MR + (7 : Int))) (8 : Int)) (0 : Int) _ (q8 hM) (hS.st.pick [] (by kernel_rfl))))
theorem Z1 {H : xT} {F : List qk} {w : World} {R : Ending → World → Prop} {kr : Int → Prop} {kp : Value → Prop} (hG : Gl H) (K : Nat) (MV : Int) (M9 : List UInt8)
    (hS : St w H [] F) (hm : (q7.m K MV M9).wp kr kp)
    (hret : ∀ (Ng : Int) (w : World), kr Ng → St w H [] F → R (.returned (.int .u32 Ng)) w) :
    Calls Tryd.prog 25 ⟨[.int .u32 MV, xi M9]⟩ w R := by
 refine enter Tryd.func25 rfl Tryd.ntmps25 rfl hS fun a w hS => ?_
 have hM := hm; clear hm
 rw [q7.m] at hM
 refine qm <| sA hS rfl fun hS => qA <| qm <| sM hS rfl fun hS => sB hS rfl fun hS => sO hS (rem rfl rfl rfl) rfl fun hS => sM hS rfl fun hS => sO hS (shr rfl rfl rfl) rfl fun hS => sO hS (rem rfl rfl rfl) rfl fun hS => zG (v := Value.int .u32) (x0 := (vS (xE .u32 MV (65535 : Int)) (65521 : Int))) hS (xD rfl) rfl fun Nq a w hz hS => ?_
 have hM := qB hz hM; clear hz
 refine zG (v := Value.int .u32) (x0 := (vS (xa .u32 MV (16 : Int)) (65521 : Int))) hS (xD rfl) rfl fun Nr a w hz hS => ?_
 have hM := qB hz hM; clear hz
 refine qA <| zm (fun a w => ∃ (M4 : Int) (M5 : Int), Ss 46 [] [(5, .int .u32 M4), (6, .int .u32 M5)] H [] F a w ∧ (q7.j4 K M4 M5).wp kr kp) (fun Nw Nk => ?_) ?_
 ·refine xS ?_
  refine zv (fun M3 a w => ∃ (MR : List UInt8) (MX : Int) (MZ : Int), Ss 46 [] [(1, xi MR), (5, .int .u32 MX), (6, .int .u32 MZ)] H [] F a w ∧ (q7.l1 K M3 MR MX MZ).wp kr kp) K ?_ ?_ ?_
  ·exact ⟨M9, Nq, Nr, hS.to [] (by kernel_rfl) ⟨rfl, rfl, rfl, trivial⟩, hM⟩
  ·intro a w hI; obtain ⟨_, _, _, _, hM⟩ := hI; exact zt hM
  ·intro M3 a w hI Nv Nj
   obtain ⟨MR, MX, MZ, hS, hM⟩ := hI
   rw [q7.l1] at hM
   refine wp_seq <| qm <| sM hS rfl fun hS => sO hS (ul rfl Tryd.runUnderlying9) rfl fun hS => sB hS rfl fun hS => qA <| qF hS rfl hM (fun Nl hM => ?_) (fun Nl hM => ?_)
   ·refine wp_skip ?_
    refine qe <| xS <| qm <| sM hS rfl fun hS => sO hS (ul rfl Tryd.runUnderlying9) rfl fun hS => sO hS (Ul rfl rfl) rfl fun hS => zG (v := Value.int .i64) (x0 := (if (MR.length : Int) < (5000 : Int) then (MR.length : Int) else (5000 : Int))) hS (xD rfl) rfl fun MS a w hz hS => ?_
    have hM := qB hz hM; clear hz
    refine qA <| zm (fun a w => ∃ (MT : Int) (MU : Int), Ss 46 [] [(1, xi MR), (5, .int .u32 MT), (6, .int .u32 MU), (7, .int .i64 MS)] H [] F a w ∧ (q7.j3 K (q7.l1 K M3) MR MS MT MU).wp kr kp) (fun Nu Ni => ?_) ?_
    ·refine wp_seq ?_
     refine zP <| sM hS rfl fun hS => sM hS rfl fun hS => qA <| xS <| zv (fun Nd a w => ∃ (MY : Int) (M0 : Int) (MW : Int), Ss 46 [] [(1, xi MR), (5, .int .u32 MY), (6, .int .u32 M0), (7, .int .i64 MS), (21, .int .i64 MS), (22, .int .i64 MW)] H [] F a w ∧ (q7.l2 K (q7.l1 K M3) MR MS Nd MY M0 MW).wp kr kp) K ?_ ?_ ?_
     ·exact ⟨MX, MZ, (0 : Int), hS.to [] (by kernel_rfl) ⟨rfl, rfl, rfl, rfl, rfl, rfl, trivial⟩, hM⟩
     ·intro a w hI; obtain ⟨_, _, _, _, hM⟩ := hI; exact zt hM
     ·intro Nd a w hI Nt Nh
      obtain ⟨MY, M0, MW, hS, hM⟩ := hI
      rw [q7.l2] at hM
      refine qm <| sB hS rfl fun hS => qA <| wp_seq <| qF hS rfl hM (fun Nm hM => ?_) (fun Nm hM => ?_)
      ·refine wp_skip ?_
       refine qe <| wp_seq <| xS <| qm <| sM hS rfl fun hS => sA hS rfl fun hS => qA <| qm <| sM hS rfl fun hS => sM hS rfl fun hS => sM hS rfl fun hS => ?_
       obtain ⟨Nn, hM⟩ := qK hM
       refine sO hS (U2 rfl rfl Tryd.runUnderlying9 Nn) rfl fun hS => sO hS (u7 rfl Tryd.runUnderlying5 Tryd.runUnderlying25) rfl fun hS => sB hS rfl fun hS => zG (v := Value.int .u32) (x0 := (wr .u32 (MY + (wr .u32 ((rd MR MW).toNat : Int))))) hS (xD rfl) rfl fun Nf a w hz hS => ?_
       have hM := qB hz hM; clear hz
       refine qA <| zP <| sM hS rfl fun hS => sM hS rfl fun hS => sB hS rfl fun hS => zG (v := Value.int .u32) (x0 := (wr .u32 (M0 + Nf))) hS (xD rfl) rfl fun Ns a w hz hS => ?_
       have hM := qB hz hM; clear hz
       refine zn <| zy (qe ?_)
       refine zP <| sB hS rfl fun hS => sM hS rfl fun hS => zn <| qe ?_
       exact Nh _ _ ⟨Nf, Ns, (qh (MW + (1 : Int))), hS.to [] (by kernel_rfl) ⟨rfl, rfl, rfl, rfl, rfl, rfl, trivial⟩, hM⟩
      ·refine wp_exit ?_
       refine qE (qE (zd (qe ?_)))
       exact Ni _ _ ⟨MY, M0, hS.to [] (by kernel_rfl) ⟨rfl, rfl, rfl, rfl, trivial⟩, hM⟩
    ·intro a w hI
     obtain ⟨MT, MU, hS, hM⟩ := hI
     rw [q7.j3] at hM
     obtain ⟨No, hM⟩ := qK hM
     obtain ⟨Nb, M6⟩ : ∃ x, x = (vS MT (65521 : Int)) := ⟨_, rfl⟩
     replace hM := qB M6 hM
     obtain ⟨Nc, M7⟩ : ∃ x, x = (vS MU (65521 : Int)) := ⟨_, rfl⟩
     replace hM := qB M7 hM
     obtain ⟨Na, M8⟩ : ∃ x, x = (sub MR MS (MR.length : Int)) := ⟨_, rfl⟩
     replace hM := qB M8 hM
     refine za (vals := [some (.int .u32 MT), some (.int .u32 (vS MT (65521 : Int))), some (.int .u32 MU), some (.int .u32 (vS MU (65521 : Int))), some (xi MR), some (.int .i64 MS), some (xi (sub MR MS (MR.length : Int))), some (.int .u32 Nb), some (.int .u32 Nc), some (xi Na)]) hS xG rfl ?_
     intro l w ho hcl hA hst
     refine ym hA hst ho hcl xH [0, 1, 2, 3, 4, 5, 6, 7, 8, 9] rfl rfl rfl (by exact ⟨nM rfl, nQ rfl (by exact qW (rem rfl rfl rfl) rfl), nM rfl, nQ rfl (by exact qW (rem rfl rfl rfl) rfl), nM rfl, nM rfl, nQ rfl (by exact qW (Lf rfl Tryd.runUnderlying9 (G2 rfl) GV No) rfl), nQ rfl (by exact qW (xD rfl) (congrArg (Value.int .u32) M6.symm)), nQ rfl (by exact qW (xD rfl) (congrArg (Value.int .u32) M7.symm)), nQ rfl (by exact qW (xD rfl) (congrArg (xi) M8.symm)), trivial⟩) fun a w hS => ?_
     replace hS := hS.env2 (e' := [(1, xi Na), (5, .int .u32 Nb), (6, .int .u32 Nc)]) ⟨rfl, rfl, rfl, trivial⟩
     refine zy (qe ?_)
     exact Nj _ _ ⟨Na, Nb, Nc, hS.to [] (by kernel_rfl) ⟨rfl, rfl, rfl, trivial⟩, hM⟩
   ·refine wp_exit ?_
    refine qE (qE (zd (qe ?_)))
    exact Nk _ _ ⟨MX, MZ, hS.to [] (by kernel_rfl) ⟨rfl, rfl, trivial⟩, hM⟩
 ·intro a w hI
  obtain ⟨M4, M5, hS, hM⟩ := hI
  rw [q7.j4] at hM
  refine qm <| sM hS rfl fun hS => sO hS (shl rfl rfl rfl) rfl fun hS => sM hS rfl fun hS => sB hS rfl fun hS => zG (v := Value.int .u32) (x0 := (QP .u32 (z7 .u32 M5 (16 : Int)) M4)) hS (xD rfl) rfl fun Np a w hz hS => ?_
  have hM := qB hz hM; clear hz
  refine qA <| wp_ret ?_
  exact zD (rs := [4]) hS rfl rfl (hret Np _ (q8 hM) (hS.st.pick [] (by kernel_rfl)))
theorem ZA {H : xT} {F : List qk} {w : World} {R : Ending → World → Prop} {kr : Int → Prop} {kp : Value → Prop} (hG : Gl H) (K : Nat) (MR : List UInt8)
    (hS : St w H [] F) (hm : (jZ.m K MR).wp kr kp)
    (hret : ∀ (MS : Int) (w : World), kr MS → St w H [] F → R (.returned (.int .u32 MS)) w) :
    Calls Tryd.prog 13 ⟨[xi MR]⟩ w R := by
 refine enter Tryd.func13 rfl Tryd.ntmps13 rfl hS fun a w hS => ?_
 have hM := hm; clear hm
 rw [jZ.m] at hM
 refine qm <| sA hS rfl fun hS => qA <| qm <| sM hS rfl fun hS => qJ hS rfl Tryd.call25 (Z1 hG K (1 : Int) MR (hS.st.part 0 [] (by kernel_rfl)) (qt hM) (fun MT w hM  hst => qz hS.ev hst.appF rfl fun hS => ?_))
 replace hS : Ss _ _ _ H [] F _ _ := hS
 refine sA hS rfl fun hS => qA <| wp_ret ?_
 exact zD (rs := [2]) hS rfl rfl (hret MT _ (q8 hM) (hS.st.pick [] (by kernel_rfl)))
end Go.TrydS

