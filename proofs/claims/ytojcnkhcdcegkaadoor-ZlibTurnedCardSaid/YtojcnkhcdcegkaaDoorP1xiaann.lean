/- Printed by a program of mine: each Go function answers what its model answers; conditions: what each theorem asks of memory. -/
import Derived.Test.YtojcnkhcdcegkaaDoorMekoia
import Derived.Test.YtojcnkhcdcegkaaDoorChecked
set_option linter.unusedVariables false
set_option linter.unusedSimpArgs false
set_option maxRecDepth 100000
namespace Go.TrydS
open Go Go.Sl Go.Mo Go.Proofs
attribute [local irreducible] qN.wp
theorem xF : Tryd.prog.follows .mixedOrders = true := by kernel_rfl
def _root_.Go.Mo.yf.cells (x : yf) : List Value := [xf x.text_, .int .i64 x.base_]
def _root_.Go.Mo.qr.cells (x : qr) : List Value := [.int .i64 x.at_]
def _root_.Go.Mo.qG.cells (x : qG) : List Value := [.int .i64 x.place_.at_, xf x.text_]
def _root_.Go.Mo.xB.cells (x : xB) : List Value := [.int .i64 x.from_, .int .i64 x.bits_]
def _root_.Go.Mo.qM.cells (x : qM) : List Value := [.int .u8 x.Lit_, .int .i64 x.Len_, .int .i64 x.Dist_]
def _root_.Go.Mo.xV.cells (x : xV) : List Value := [.int .i64 x.symbol_, .int .i64 x.bits_, .int .u32 x.more_]
def _root_.Go.Mo.qi.cells (x : qi) : List Value := [.int .i64 x.symbol_, .int .i64 x.more_, .int .i64 x.bits_]
theorem X.el3 : El Tryd.prog 3 1 8 := ⟨_, _, Tryd.typeInfo3, rfl, rfl, rfl, rfl⟩
theorem X.el5 : El Tryd.prog 5 1 1 := ⟨_, _, Tryd.typeInfo5, rfl, rfl, rfl, rfl⟩
theorem X.el57 : El Tryd.prog 57 3 24 := ⟨_, _, Tryd.typeInfo57, rfl, rfl, rfl, rfl⟩
theorem X.el66 : El Tryd.prog 66 1 24 := ⟨_, _, Tryd.typeInfo66, rfl, rfl, rfl, rfl⟩
theorem X.el84 : El Tryd.prog 84 3 24 := ⟨_, _, Tryd.typeInfo84, rfl, rfl, rfl, rfl⟩
theorem X.el110 : El Tryd.prog 110 1 24 := ⟨_, _, Tryd.typeInfo110, rfl, rfl, rfl, rfl⟩
theorem X.el112 : El Tryd.prog 112 2 32 := ⟨_, _, Tryd.typeInfo112, rfl, rfl, rfl, rfl⟩
theorem xJ : ∀ x, ∀ u ∈ (ci .i64) x, u.oneCell' = true := fun x u hu => by cases hu with | head => rfl | tail _ h => cases h
theorem u4 : ∀ x, ∀ u ∈ (ci .u8) x, u.oneCell' = true := fun x u hu => by cases hu with | head => rfl | tail _ h => cases h
theorem D7 : ∀ x, ∀ u ∈ qM.cells x, u.oneCell' = true := by
  intro x u hu
  simp only [qM.cells, List.mem_cons, List.not_mem_nil, or_false] at hu
  rcases hu with rfl | rfl | rfl <;> rfl
theorem XF : ∀ x, ∀ u ∈ qi.cells x, u.oneCell' = true := by
  intro x u hu
  simp only [qi.cells, List.mem_cons, List.not_mem_nil, or_false] at hu
  rcases hu with rfl | rfl | rfl <;> rfl
structure Gl (H : xT) : Prop where
  g0 : ∃ T fr, H 0 = some (.cells ⟨tab_deflate_order.flatMap (ci .i64)⟩ T fr)
  g1 : ∃ T fr, H 1 = some (.cells ⟨tab_inflate_lengths.flatMap xB.cells⟩ T fr)
  g2 : ∃ T fr, H 2 = some (.cells ⟨tab_inflate_distances.flatMap xB.cells⟩ T fr)
  g3 : ∃ T fr, H 3 = some (.cells ⟨tab_inflate_order.flatMap (ci .i64)⟩ T fr)
theorem Ua {H : xT} {F : List qk} {w : World} {R : Ending → World → Prop} {kr : Unit → Prop} {kp : Value → Prop} (hG : Gl H) (K : Nat) (s7 : List UInt8)
    (hS : St w H [] F) (hm : (YD.m K s7).wp kr kp)
    (hret : ∀ (w : World), kr () → St w H [] F → R (.returned (.agg ⟨[xf s7, .int .i64 (0 : Int)]⟩)) w) :
    Calls Tryd.prog 20 ⟨[xf s7]⟩ w R := by
 refine enter Tryd.func20 rfl Tryd.ntmps20 rfl hS fun a w hS => ?_
 have hM := hm; clear hm
 rw [YD.m] at hM
 refine qm <| QI ([xf ([] : List UInt8), .int .i64 (0 : Int)]) hS Tryd.zeroValue44 rfl rfl fun w b8 f9 M3 hS => qA <| qm <| sM hS rfl fun hS => sO hS (Xw ([xf s7, .int .i64 (0 : Int)]) [(0, 1), (1, 1)] Tryd.zeroValue44 Tryd.runUnderlying44 (by intro w; simp [Tryd.sizeOf3, Tryd.sizeOf9]) rfl rfl) rfl fun hS => QX 0 ([xf s7, .int .i64 (0 : Int)]) ([xf s7, .int .i64 (0 : Int)]) hS rfl rfl M3 rfl rfl Tryd.sizeOf44 (by simp [Value.oneCell']) (Nat.le_of_ble_eq_true rfl) rfl fun w M5 M4 hS => qA <| wp_ret ?_
 exact jl (vs := [.agg ⟨[xf s7, .int .i64 (0 : Int)]⟩]) hS rfl (by exact ⟨Kl 0 ([xf s7, .int .i64 (0 : Int)]) rfl M4 rfl rfl rfl Tryd.isAgg44 Tryd.sizeOf44, trivial⟩) (hret _ (q8 hM) (hS.st.pick [] (by kernel_rfl)))
theorem Q1 {H : xT} {F : List qk} {w : World} {R : Ending → World → Prop} {kr : Bool → Prop} {kp : Value → Prop} (hG : Gl H) (K : Nat) (M3 : Int)
    (hS : St w H [] F) (hm : (vr.m K M3).wp kr kp)
    (hret : ∀ (M4 : Bool) (w : World), kr M4 → St w H [] F → R (.returned (.bool M4)) w) :
    Calls Tryd.prog 22 ⟨[.int .i64 M3]⟩ w R := by
 refine enter Tryd.func22 rfl Tryd.ntmps22 rfl hS fun a w hS => ?_
 have hM := hm; clear hm
 rw [vr.m] at hM
 refine qm <| sA hS rfl fun hS => qA <| qm <| sM hS rfl fun hS => sB hS rfl fun hS => sM hS rfl fun hS => y4 2 true 5 (b := (decide (M3 > (0 : Int)))) (r := (decide (M3 ≤ (8 : Int)))) hS rfl rfl rfl rfl rfl rfl rfl (fun hb a w hS K hK => ?_) rfl fun a w hS => ?_
 ·refine z2 hS rfl rfl rfl hb (mv rfl) rfl fun a w hS => ?_
  refine z2 hS rfl rfl rfl hb (jv rfl rfl rfl) rfl fun a w hS => ?_
  exact zo (hK _ _ (hS.up 2 rfl rfl))
 refine sM hS rfl fun hS => y4 5 true 9 (b := ((decide (M3 > (0 : Int))) && (decide (M3 ≤ (8 : Int))))) (r := ((xH .i64 M3 (qg (M3 - (1 : Int)))) == (0 : Int))) hS rfl rfl rfl rfl rfl rfl rfl (fun hb a w hS K hK => ?_) rfl fun a w hS => ?_
 ·refine z2 hS rfl rfl rfl hb (mv rfl) rfl fun a w hS => ?_
  refine z2 hS rfl rfl rfl hb (mv rfl) rfl fun a w hS => z2 hS rfl rfl rfl hb (jv rfl rfl rfl) rfl fun a w hS => z2 hS rfl rfl rfl hb (jv rfl rfl rfl) rfl fun a w hS => z2 hS rfl rfl rfl hb (jv rfl rfl rfl) rfl fun a w hS => ?_
  exact zo (hK _ _ (hS.up 5 rfl rfl))
 refine zF (v := Value.bool) (x0 := (((decide (M3 > (0 : Int))) && (decide (M3 ≤ (8 : Int)))) && ((xH .i64 M3 (qg (M3 - (1 : Int)))) == (0 : Int)))) hS (xA rfl) rfl fun M5 a w hz hS => ?_
 have hM := qz hz hM; clear hz
 refine qA <| wp_ret ?_
 exact zE (rs := [2]) hS rfl rfl (hret M5 _ (q8 hM) (hS.st.pick [] (by kernel_rfl)))
theorem Z9 {H : xT} {F : List qk} {w : World} {R : Ending → World → Prop} {kr : ((List UInt8) × Int × Int) → Prop} {kp : Value → Prop} (hG : Gl H) (K : Nat) (M4 : yf) (M3 : Int) (M5 : Int)
    (hS : St w H [] F) (hm : (jm.m K M4 M3 M5).wp kr kp)
    (hret : ∀ (M7 : List UInt8) (M6 : Int) (Nj : Int) (w : World), kr (M7, M6, Nj) → St w H [] F → R (.returned (.tuple ⟨[.agg ⟨[xf M7, .int .i64 M6]⟩, .int .i64 Nj]⟩)) w) :
    Calls Tryd.prog 40 ⟨[.agg ⟨[xf M4.text_, .int .i64 M4.base_]⟩, .int .i64 M3, .int .i64 M5]⟩ w R := by
 refine enter Tryd.func40 rfl Tryd.ntmps40 rfl hS fun a w hS => ?_
 have hM := hm; clear hm
 rw [jm.m] at hM
 refine qm <| bx ([xf M4.text_, .int .i64 M4.base_]) hS rfl rfl rfl fun w Na Nk M8 hS => QI ([xf ([] : List UInt8), .int .i64 (0 : Int)]) hS Tryd.zeroValue44 rfl rfl fun w Ni Nl M9 hS => sA hS rfl fun hS => qA <| wp_seq <| qm <| sM hS rfl fun hS => sB hS rfl fun hS => sM hS rfl fun hS => y4 2 false 10 (b := (decide (M3 < (0 : Int)))) (r := (decide (M5 < (0 : Int)))) hS rfl rfl rfl rfl rfl rfl rfl (fun hb a w hS K hK => ?_) rfl fun a w hS => ?_
 ·refine z2 hS rfl rfl rfl hb (mv rfl) rfl fun a w hS => ?_
  refine z2 hS rfl rfl rfl hb (jv rfl rfl rfl) rfl fun a w hS => ?_
  exact zo (hK _ _ (hS.up 2 rfl rfl))
 refine qA <| qF hS rfl hM (fun Nf hM => ?_) (fun Nf hM => ?_)
 ·refine wp_seq ?_
  refine zM <| sO hS (Xw ([xf ([] : List UInt8), .int .i64 (0 : Int)]) [(0, 1), (1, 1)] Tryd.zeroValue44 Tryd.runUnderlying44 (by intro w; simp [Tryd.sizeOf3, Tryd.sizeOf9]) rfl rfl) rfl fun hS => QX 0 ([xf ([] : List UInt8), .int .i64 (0 : Int)]) ([xf ([] : List UInt8), .int .i64 (0 : Int)]) hS rfl rfl M9 rfl rfl Tryd.sizeOf44 (by simp [Value.oneCell']) (Nat.le_of_ble_eq_true rfl) rfl fun w Nm Nb hS => sA hS rfl fun hS => qA <| wp_ret <| zk ?_
  exact jl (vs := [.agg ⟨[xf ([] : List UInt8), .int .i64 (0 : Int)]⟩, .int .i64 (1 : Int)]) hS rfl (by exact ⟨Kl 0 ([xf ([] : List UInt8), .int .i64 (0 : Int)]) rfl Nb rfl rfl rfl Tryd.isAgg44 Tryd.sizeOf44, Lw rfl, trivial⟩) (hret ([] : List UInt8) (0 : Int) (1 : Int) _ (q8 hM) (hS.st.pick [] (by kernel_rfl)))
 ·refine wp_skip ?_
  refine qe <| wp_seq <| qm <| sM hS rfl fun hS => sO hS (xw rfl Tryd.runUnderlying44 rfl Tryd.sizeOf9 rfl) rfl fun hS => sO hS (x5 1 rfl M8 rfl rfl Tryd.isAgg9) rfl fun hS => sO hS (uY rfl Tryd.runUnderlying9) rfl fun hS => sB hS rfl fun hS => sM hS rfl fun hS => y4 7 false 20 (b := (decide (M3 > (M4.text_.length : Int)))) (r := (decide (M5 > (qg ((M4.text_.length : Int) - M3))))) hS rfl rfl rfl rfl rfl rfl rfl (fun hb a w hS K hK => ?_) rfl fun a w hS => ?_
  ·refine z2 hS rfl rfl rfl hb (mv rfl) rfl fun a w hS => ?_
   refine z2 hS rfl rfl rfl hb (xw rfl Tryd.runUnderlying44 rfl Tryd.sizeOf9 rfl) rfl fun a w hS => z2 hS rfl rfl rfl hb (x5 1 rfl M8 rfl rfl Tryd.isAgg9) rfl fun a w hS => z2 hS rfl rfl rfl hb (uY rfl Tryd.runUnderlying9) rfl fun a w hS => z2 hS rfl rfl rfl hb (mv rfl) rfl fun a w hS => z2 hS rfl rfl rfl hb (jv rfl rfl rfl) rfl fun a w hS => z2 hS rfl rfl rfl hb (jv rfl rfl rfl) rfl fun a w hS => ?_
   exact zo (hK _ _ (hS.up 7 rfl rfl))
  refine qA <| qF hS rfl hM (fun Ng hM => ?_) (fun Ng hM => ?_)
  ·refine wp_seq ?_
   refine zM <| sO hS (Xw ([xf ([] : List UInt8), .int .i64 (0 : Int)]) [(0, 1), (1, 1)] Tryd.zeroValue44 Tryd.runUnderlying44 (by intro w; simp [Tryd.sizeOf3, Tryd.sizeOf9]) rfl rfl) rfl fun hS => QX 0 ([xf ([] : List UInt8), .int .i64 (0 : Int)]) ([xf ([] : List UInt8), .int .i64 (0 : Int)]) hS rfl rfl M9 rfl rfl Tryd.sizeOf44 (by simp [Value.oneCell']) (Nat.le_of_ble_eq_true rfl) rfl fun w Nn Nc hS => sA hS rfl fun hS => qA <| wp_ret <| zk ?_
   exact jl (vs := [.agg ⟨[xf ([] : List UInt8), .int .i64 (0 : Int)]⟩, .int .i64 (2 : Int)]) hS rfl (by exact ⟨Kl 0 ([xf ([] : List UInt8), .int .i64 (0 : Int)]) rfl Nc rfl rfl rfl Tryd.isAgg44 Tryd.sizeOf44, Lw rfl, trivial⟩) (hret ([] : List UInt8) (0 : Int) (2 : Int) _ (q8 hM) (hS.st.pick [] (by kernel_rfl)))
  ·refine wp_skip ?_
   refine qe <| wp_seq ?_
   obtain ⟨Nh, hM⟩ := qK hM
   refine q9 (vals := [some (qL Na 0), some (xf M4.text_), some (.int .i64 M3), some (.int .i64 M3), some (.int .i64 M5), some (.int .i64 (qg (M3 + M5))), some (xf (sub M4.text_ M3 (qg (M3 + M5)))), some (qL Na 1), some (.int .i64 M4.base_), some (.int .i64 M3), some (.int .i64 (qg (M4.base_ + M3))), some (.agg ⟨[xf (sub M4.text_ M3 (qg (M3 + M5))), .int .i64 (qg (M4.base_ + M3))]⟩), none, none]) hS xF rfl ?_
   intro l w ho hcl hA hst
   refine jf hA hst ho hcl xu xG 12 [0, 1, 2, 3, 4, 5, 6, 7, 8, 9, 10, 11] rfl rfl rfl rfl rfl (by exact ⟨nQ rfl (by exact qX (xw rfl Tryd.runUnderlying44 rfl Tryd.sizeOf9 rfl) rfl), nQ rfl (by exact qX (x5 1 rfl M8 rfl rfl Tryd.isAgg9) rfl), nM rfl, nM rfl, nM rfl, nB rfl, nQ rfl (by exact qX (Lp rfl Tryd.runUnderlying9 (Lb rfl) (DR rfl) Nh) rfl), nQ rfl (by exact qX (xw rfl Tryd.runUnderlying44 rfl Tryd.sizeOf3 rfl) rfl), nQ rfl (by exact qX (x5 1 rfl M8 rfl rfl Tryd.isAgg3) rfl), nM rfl, nB rfl, nQ rfl (by exact qX (Xw ([xf (sub M4.text_ M3 (qg (M3 + M5))), .int .i64 (qg (M4.base_ + M3))]) [(0, 1), (1, 1)] Tryd.zeroValue44 Tryd.runUnderlying44 (by intro w; simp [Tryd.sizeOf3, Tryd.sizeOf9]) rfl rfl) rfl), trivial⟩) fun D l a w ho hcl hav hpre hm hE hk hA hst => ?_
   have hS := (Ss.mk hE hst).env2 (e' := [(6, qL Ni 0), (41, .agg ⟨[xf (sub M4.text_ M3 (qg (M3 + M5))), .int .i64 (qg (M4.base_ + M3))]⟩)]) ⟨rfl, rfl, trivial⟩
   refine qR rfl <| QX 0 ([xf (sub M4.text_ M3 (qg (M3 + M5))), .int .i64 (qg (M4.base_ + M3))]) ([xf (sub M4.text_ M3 (qg (M3 + M5))), .int .i64 (qg (M4.base_ + M3))]) hS rfl rfl M9 rfl rfl Tryd.sizeOf44 (by simp [Value.oneCell']) (Nat.le_of_ble_eq_true rfl) rfl fun w No Nd hS => qA ?_
   replace hst := hS.st
   obtain ⟨hcl, hmust, hav2, hA⟩ := Xy (vals' := [some (qL Na 0), some (xf M4.text_), some (.int .i64 M3), some (.int .i64 M3), some (.int .i64 M5), some (.int .i64 (qg (M3 + M5))), some (xf (sub M4.text_ M3 (qg (M3 + M5)))), some (qL Na 1), some (.int .i64 M4.base_), some (.int .i64 M3), some (.int .i64 (qg (M4.base_ + M3))), some (.agg ⟨[xf (sub M4.text_ M3 (qg (M3 + M5))), .int .i64 (qg (M4.base_ + M3))]⟩), some undef, some (.int .i64 (0 : Int))]) 12 [(0, 12), (1, 12), (2, 12), (3, 12), (4, 12), (5, 12), (6, 12), (7, 12), (8, 12), (9, 12), (10, 12), (11, 12)] hA hcl hav hm hpre rfl rfl rfl rfl rfl
   clear hm hav
   refine yk hA hst ho hcl hmust [13] rfl rfl rfl (by exact ⟨nA rfl, trivial⟩) fun a w hS => ?_
   replace hS := hS.env2 (e' := [(6, qL Ni 0), (7, .int .i64 (0 : Int))]) ⟨rfl, rfl, trivial⟩
   refine qe <| wp_ret ?_
   exact jl (vs := [.agg ⟨[xf (sub M4.text_ M3 (qg (M3 + M5))), .int .i64 (qg (M4.base_ + M3))]⟩, .int .i64 (0 : Int)]) hS rfl (by exact ⟨Kl 0 ([xf (sub M4.text_ M3 (qg (M3 + M5))), .int .i64 (qg (M4.base_ + M3))]) rfl Nd rfl rfl rfl Tryd.isAgg44 Tryd.sizeOf44, Lw rfl, trivial⟩) (hret (sub M4.text_ M3 (qg (M3 + M5))) (qg (M4.base_ + M3)) (0 : Int) _ (q8 hM) (hS.st.pick [] (by kernel_rfl)))
theorem uL {H : xT} {F : List qk} {w : World} {R : Ending → World → Prop} {kr : Unit → Prop} {kp : Value → Prop} (hG : Gl H) (K : Nat) (M3 : Int)
    (hS : St w H [] F) (hm : (yY.m K M3).wp kr kp)
    (hret : ∀ (M5 : Nat) (M6 : qk) (w : World), kr () → (xM M6 M5 ([.int .i64 M3]) 3) → St w H [M6] F → R (.returned (jF 45 [] [qL M5 0])) w) :
    Calls Tryd.prog 24 ⟨[.int .i64 M3, .bool true]⟩ w R := by
 refine enter Tryd.func24 rfl Tryd.ntmps24 rfl hS fun a w hS => ?_
 have hM := hm; clear hm
 rw [yY.m] at hM
 refine qm <| bx ([.int .i64 M3]) hS rfl rfl rfl fun w M7 M8 M4 hS => sA hS rfl fun hS => qA <| wp_seq <| qm <| sM hS rfl fun hS => qA <| Ko hS rfl <| qm <| sO hS (Mm rfl rfl) rfl fun hS => sA hS rfl fun hS => qA <| wp_ret <| zk ?_
 exact zE (rs := [4]) hS rfl rfl (hret M7 M8 _ (q8 hM) M4 (hS.st.pick [0] (by kernel_rfl)))
theorem v7 {H : xT} {F : List qk} {w : World} {R : Ending → World → Prop} {kr : Int → Prop} {kp : Value → Prop} (hG : Gl H) (K : Nat) (M3 : Int) (M4 : Int) (M7 : Nat) (M5 : qk) (M6 : xM M5 M7 ([.int .i64 M4]) 3)
    (hS : St w H [M5] F) (hm : (ye.m K M3 M4).wp kr kp)
    (hret : ∀ (M8 : Int) (w : World), kr M8 → St w H [M5] F → R (.returned (.int .i64 M8)) w) :
    Calls Tryd.prog 45 ⟨[.int .i64 M3, qL M7 0]⟩ w R := by
 refine enter Tryd.func45 rfl Tryd.ntmps45 rfl hS fun a w hS => ?_
 have hM := hm; clear hm
 rw [ye.m] at hM
 refine qm <| sA hS rfl fun hS => qA <| qm <| sO hS (x5 0 rfl M6 rfl rfl Tryd.isAgg3) rfl fun hS => sB hS rfl fun hS => sM hS rfl fun hS => sB hS rfl fun hS => zF (v := Value.int .i64) (x0 := (qg ((qg (M4 - (1 : Int))) - M3))) hS (xA rfl) rfl fun M9 a w hz hS => ?_
 have hM := qz hz hM; clear hz
 refine qA <| wp_ret ?_
 exact zE (rs := [3]) hS rfl rfl (hret M9 _ (q8 hM) (hS.st.pick [0] (by kernel_rfl)))
theorem jT {H : xT} {F : List qk} {w : World} {R : Ending → World → Prop} {kr : (Int × Int) → Prop} {kp : Value → Prop} (hG : Gl H) (K : Nat) (M6 : yf) (M8 : Int) (M3 : Int)
    (hS : St w H [] F) (hm : (zS.m K M6 M8 M3).wp kr kp)
    (hret : ∀ (Nt : Int) (Nu : Int) (w : World), kr (Nt, Nu) → St w H [] F → R (.returned (.tuple ⟨[.int .u64 Nt, .int .i64 Nu]⟩)) w) :
    Calls Tryd.prog 19 ⟨[.agg ⟨[xf M6.text_, .int .i64 M6.base_]⟩, .int .i64 M8, .int .i64 M3, .bool true]⟩ w R := by
 refine enter Tryd.func19 rfl Tryd.ntmps19 rfl hS fun a w hS => ?_
 have hM := hm; clear hm
 rw [zS.m] at hM
 refine qm <| bx ([xf M6.text_, .int .i64 M6.base_]) hS rfl rfl rfl fun w Ny Ni Nk hS => sA hS rfl fun hS => sA hS rfl fun hS => qA <| wp_seq <| qm <| sM hS rfl fun hS => qI hS rfl Tryd.call22 (Q1 hG K M3 (hS.st.part 0 [0] (by kernel_rfl)) (qt hM) (fun NA w hM  hst => qB hS.ev hst.appF rfl fun hS => ?_))
 replace hS : Ss _ _ _ H [Ni] F _ _ := hS
 refine sO hS (un rfl rfl) rfl fun hS => qA <| qF hS rfl hM (fun Nn hM => ?_) (fun Nn hM => ?_)
 ·refine wp_seq ?_
  refine zM <| sA hS rfl fun hS => sA hS rfl fun hS => qA <| wp_ret <| zk ?_
  exact zE (rs := [8, 9]) hS rfl rfl (hret (0 : Int) (1 : Int) _ (q8 hM) (hS.st.pick [] (by kernel_rfl)))
 ·refine wp_skip ?_
  refine qe <| qm <| sO hS (uX 0 rfl Nk rfl ([xf M6.text_, .int .i64 M6.base_]) rfl rfl Tryd.isAgg44 Tryd.sizeOf44) rfl fun hS => sO hS (Mm rfl rfl) rfl fun hS => sA hS rfl fun hS => qA <| qm <| sM hS rfl fun hS => sM hS rfl fun hS => sM hS rfl fun hS => vf hS rfl rfl Tryd.call40 (Z9 hG K M6 M8 M3 (hS.st.part 0 [0] (by kernel_rfl)) (qt hM) (fun M4 M9 Nw w hM  hst => qB hS.ev hst.appF rfl fun hS => ?_))
  replace hS : Ss _ _ _ H [Ni] F _ _ := hS
  refine sM hS rfl fun hS => sO hS (ex rfl rfl) rfl fun hS => sO hS (ex rfl rfl) rfl fun hS => QI ([xf ([] : List UInt8), .int .i64 (0 : Int)]) hS Tryd.zeroValue44 rfl rfl fun w Ng Nz Nl hS => QX 0 ([xf M4, .int .i64 M9]) ([xf M4, .int .i64 M9]) hS rfl rfl Nl rfl rfl Tryd.sizeOf44 (by simp [Value.oneCell']) (Nat.le_of_ble_eq_true rfl) rfl fun w Nj Nd hS => sA hS rfl fun hS => qA <| wp_seq <| qm <| sM hS rfl fun hS => sB hS rfl fun hS => qA <| qF hS rfl hM (fun No hM => ?_) (fun No hM => ?_)
  ·refine wp_seq ?_
   refine zM <| sM hS rfl fun hS => sA hS rfl fun hS => sA hS rfl fun hS => qA <| wp_ret <| zk ?_
   exact zE (rs := [8, 9]) hS rfl rfl (hret (0 : Int) Nw _ (q8 hM) (hS.st.pick [] (by kernel_rfl)))
  ·refine wp_skip ?_
   refine qe <| qm <| sM hS rfl fun hS => sM hS rfl fun hS => qI hS rfl Tryd.call24 (uL hG K M3 (hS.st.part 0 [0, 1] (by kernel_rfl)) (qt hM) (fun Nb Nh w hM Nv hst => qB hS.ev hst.appF rfl fun hS => ?_))
   replace hS : Ss _ _ _ H [Nh, Nj, Ni] F _ _ := hS
   refine sA hS rfl fun hS => qA <| qm <| sA hS rfl fun hS => qA <| wp_seq <| qm <| sM hS rfl fun hS => sM hS rfl fun hS => qA <| xQ <| zv (fun Ns a w => ∃ (M5 : Int) (M7 : Int), Ss 52 [] [(11, qL Ng 0), (13, jF 45 [] [qL Nb 0]), (14, .int .u64 M5), (34, .int .i64 M3), (35, .int .i64 M7)] H [Nj, Nh] F a w ∧ (zS.l1 K M3 M4 Ns M5 M7).wp kr kp) K ?_ ?_ ?_
   ·exact ⟨(0 : Int), (0 : Int), hS.to [1, 0] (by kernel_rfl) ⟨rfl, rfl, rfl, rfl, rfl, trivial⟩, hM⟩
   ·intro a w hI; obtain ⟨_, _, _, hM⟩ := hI; exact zu hM
   ·intro Ns a w hI Nx Nm
    obtain ⟨M5, M7, hS, hM⟩ := hI
    rw [zS.l1] at hM
    refine qm <| sB hS rfl fun hS => qA <| wp_seq <| qF hS rfl hM (fun Np hM => ?_) (fun Np hM => ?_)
    ·refine wp_skip ?_
     refine qe <| wp_seq <| xQ <| qm <| sM hS rfl fun hS => sA hS rfl fun hS => qA <| q9 (vals := [some (.int .u64 M5), some (qL Ng 0), some (xf M4), some (jF 45 [] [qL Nb 0]), some (.int .i64 M7), none, none, none, some (.int .i64 M7), some (.int .i64 (qg ((8 : Int) * M7))), none, none, none]) hS xF rfl ?_
     intro l w ho hcl hA hst
     refine jf hA hst ho hcl xu xG 5 [0, 1, 2, 3, 4, 8, 9] rfl rfl rfl rfl rfl (by exact ⟨nM rfl, nQ rfl (by exact qX (xw rfl Tryd.runUnderlying44 rfl Tryd.sizeOf9 rfl) rfl), nQ rfl (by exact qX (x5 0 rfl Nd rfl rfl Tryd.isAgg9) rfl), nM rfl, nM rfl, nM rfl, nB rfl, trivial⟩) fun D l a w ho hcl hav hpre hm hE hk hA hst => ?_
     have hS := (Ss.mk hE hst).env2 (e' := [(41, jF 45 [] [qL Nb 0]), (42, .int .i64 M7)]) ⟨rfl, rfl, trivial⟩
     refine qR rfl <| vf hS rfl rfl Tryd.call45 (v7 hG K M7 M3 Nb Nh Nv (hS.st.part 1 [1, 0] (by kernel_rfl)) (qt hM) (fun Nc w hM  hst => qB hS.ev hst.appF rfl fun hS => ?_))
     replace hS : Ss _ _ _ H [Nh, Nj] F _ _ := hS
     refine qA ?_
     replace hst := hS.st
     obtain ⟨Nq, hM⟩ := qK hM
     obtain ⟨Nr, hM⟩ := qK hM
     obtain ⟨Na, Nf⟩ : ∃ x, x = (QS .u64 M5 (z8 .u64 (wr .u64 ((rd M4 Nc).toNat : Int)) (qg ((8 : Int) * M7)))) := ⟨_, rfl⟩
     replace hM := qz Nf hM
     obtain ⟨hcl, hmust, hav2, hA⟩ := dn (vals' := [some (.int .u64 M5), some (qL Ng 0), some (xf M4), some (jF 45 [] [qL Nb 0]), some (.int .i64 M7), some (.int .i64 Nc), some (.int .u8 ((rd M4 Nc).toNat : Int)), some (.int .u64 (wr .u64 ((rd M4 Nc).toNat : Int))), some (.int .i64 M7), some (.int .i64 (qg ((8 : Int) * M7))), some (.int .u64 (z8 .u64 (wr .u64 ((rd M4 Nc).toNat : Int)) (qg ((8 : Int) * M7)))), some (.int .u64 (QS .u64 M5 (z8 .u64 (wr .u64 ((rd M4 Nc).toNat : Int)) (qg ((8 : Int) * M7))))), some (.int .u64 Na)]) 5 [(3, 5), (4, 5)] hA hcl hav hm hpre hk rfl rfl rfl rfl rfl rfl rfl
     clear hm hav
     refine yk hA hst ho hcl hmust [0, 1, 2, 6, 7, 8, 9, 10, 11, 12] rfl rfl rfl (by exact ⟨nM rfl, nQ rfl (by exact qX (xw rfl Tryd.runUnderlying44 rfl Tryd.sizeOf9 rfl) rfl), nQ rfl (by exact qX (x5 1 rfl Nd rfl rfl Tryd.isAgg9) rfl), nQ rfl (by exact qX (Up rfl rfl Tryd.runUnderlying9 Nq) rfl), nQ rfl (by exact qX (ux rfl Tryd.runUnderlying5 Tryd.runUnderlying36) rfl), nM rfl, nB rfl, nQ rfl (by exact qX (shl rfl rfl Nr) rfl), nB rfl, nQ rfl (by exact qX (xA rfl) (congrArg (Value.int .u64) Nf.symm)), trivial⟩) fun a w hS => ?_
     replace hS := hS.env2 (e' := [(11, qL Ng 0), (13, jF 45 [] [qL Nb 0]), (14, .int .u64 Na), (34, .int .i64 M3), (35, .int .i64 M7)]) ⟨rfl, rfl, rfl, rfl, rfl, trivial⟩
     refine zx (qe ?_)
     refine zM <| sB hS rfl fun hS => sM hS rfl fun hS => zo <| qe ?_
     exact Nm _ _ ⟨Na, (qg (M7 + (1 : Int))), hS.to [1, 0] (by kernel_rfl) ⟨rfl, rfl, rfl, rfl, rfl, trivial⟩, hM⟩
    ·refine wp_exit ?_
     refine qE (qE (zd (qe ?_)))
     refine qm <| sM hS rfl fun hS => sA hS rfl fun hS => sA hS rfl fun hS => qA <| wp_ret ?_
     exact zE (rs := [8, 9]) hS rfl rfl (hret M5 (0 : Int) _ (q8 hM) (hS.st.pick [] (by kernel_rfl)))
theorem Ug {H : xT} {F : List qk} {w : World} {R : Ending → World → Prop} {kr : Unit → Prop} {kp : Value → Prop} (hG : Gl H) (K : Nat) (M3 : List UInt8)
    (hS : St w H [] F) (hm : (Zf.m K M3).wp kr kp)
    (hret : ∀ (M4 : Nat) (M5 : qk) (w : World), kr () → (xM M5 M4 ([.int .i64 (0 : Int), xf M3]) 118) → St w H [M5] F → R (.returned (qL M4 0)) w) :
    Calls Tryd.prog 42 ⟨[xf M3]⟩ w R := by
 refine enter Tryd.func42 rfl Tryd.ntmps42 rfl hS fun a w hS => ?_
 have hM := hm; clear hm
 rw [Zf.m] at hM
 refine qm <| sA hS rfl fun hS => qA <| qm <| sM hS rfl fun hS => sO hS (Xw ([.int .i64 (0 : Int), xf M3]) [(0, 1), (1, 1)] Tryd.zeroValue118 Tryd.runUnderlying118 (by intro w; simp [Tryd.sizeOf63, Tryd.sizeOf9]) rfl rfl) rfl fun hS => bx ([.int .i64 (0 : Int), xf M3]) hS rfl rfl rfl fun w M7 M8 M6 hS => sA hS rfl fun hS => qA <| wp_ret ?_
 exact zE (rs := [2]) hS rfl rfl (hret M7 M8 _ (q8 hM) M6 (hS.st.pick [0] (by kernel_rfl)))
theorem vL {H : xT} {F : List qk} {w : World} {R : Ending → World → Prop} {kr : (Int × Int × Int) → Prop} {kp : Value → Prop} (hG : Gl H) (K : Nat) (M4 : qG) (M3 : Int) (M6 : Nat) (M8 : qk) (M5 : xM M8 M6 ([.int .i64 M4.place_.at_, xf M4.text_]) 118)
    (hS : St w H [M8] F) (hm : (zI.m K M4 M3).wp kr kp)
    (hret : ∀ (Ns : Int) (Nt : Int) (Na : Int) (Nf : qk) (w : World), kr (Ns, Nt, Na) → (xM Nf M6 ([.int .i64 Na, xf M4.text_]) 118) → St w H [Nf] F → R (.returned (.tuple ⟨[.int .u32 Ns, .int .i64 Nt]⟩)) w) :
    Calls Tryd.prog 78 ⟨[qL M6 0, .int .i64 M3]⟩ w R := by
 refine enter Tryd.func78 rfl Tryd.ntmps78 rfl hS fun a w hS => ?_
 have hM := hm; clear hm
 rw [zI.m] at hM
 refine qm <| sA hS rfl fun hS => sA hS rfl fun hS => qA <| wp_seq <| xQ <| qm <| sM hS rfl fun hS => sO hS (XV rfl rfl Tryd.runUnderlying94) rfl fun hS => sM hS rfl fun hS => z2 hS rfl rfl rfl rfl (mv rfl) rfl fun a w hS => z2 hS rfl rfl rfl rfl (jv rfl rfl rfl) rfl fun a w hS => sO hS (pk rfl rfl rfl) rfl fun hS => sM hS rfl fun hS => y4 2 false 16 (b := (decide (M3 < (0 : Int)))) (r := (decide (M3 > (32 : Int)))) hS rfl rfl rfl rfl rfl rfl rfl (fun hb a w hS K hK => ?_) rfl fun a w hS => ?_
 ·refine z2 hS rfl rfl rfl hb (mv rfl) rfl fun a w hS => ?_
  refine z2 hS rfl rfl rfl hb (jv rfl rfl rfl) rfl fun a w hS => ?_
  exact zo (hK _ _ (hS.up 2 rfl rfl))
 refine zF (v := Value.bool) (x0 := ((decide (M3 < (0 : Int))) || (decide (M3 > (32 : Int))))) hS (xA rfl) rfl fun NB a w hz hS => ?_
 have hM := qz hz hM; clear hz
 refine qA <| qF hS rfl hM (fun Nj hM => ?_) (fun Nj hM => ?_)
 ·refine wp_seq ?_
  refine zM <| sA hS rfl fun hS => sA hS rfl fun hS => qA <| wp_ret <| x6 (zk ?_)
  exact zE (rs := [4, 5]) hS rfl rfl (hret (0 : Int) (1 : Int) M4.place_.at_ M8 _ (q8 hM) M5 (hS.st.pick [0] (by kernel_rfl)))
 ·refine wp_seq ?_
  obtain ⟨Nr, Nd⟩ : ∃ x, x = (decide (M3 > (qg ((qg ((8 : Int) * (M4.text_.length : Int))) - M4.place_.at_)))) := ⟨_, rfl⟩
  replace hM := qz Nd hM
  refine q9 (vals := [some (.int .i64 M3), some (qL M6 0), some (qL M6 0), some (qL M6 1), some (xf M4.text_), some (.int .i64 (M4.text_.length : Int)), some (.int .i64 (qg ((8 : Int) * (M4.text_.length : Int)))), some (qL M6 0), some (qL M6 0), some (qL M6 0), some (qL M6 0), some (.int .i64 M4.place_.at_), some (.int .i64 (qg ((qg ((8 : Int) * (M4.text_.length : Int))) - M4.place_.at_))), some (.bool (decide (M3 > (qg ((qg ((8 : Int) * (M4.text_.length : Int))) - M4.place_.at_))))), some (.bool Nr)]) hS xF rfl ?_
  intro l w ho hcl hA hst
  refine yk hA hst ho hcl xG [0, 1, 2, 3, 4, 5, 6, 7, 8, 9, 10, 11, 12, 13, 14] rfl rfl rfl (by exact ⟨nM rfl, nM rfl, nQ rfl (by exact qX (yz rfl) rfl), nQ rfl (by exact qX (xw rfl Tryd.runUnderlying118 rfl Tryd.sizeOf9 rfl) rfl), nQ rfl (by exact qX (x5 0 rfl M5 rfl rfl Tryd.isAgg9) rfl), nQ rfl (by exact qX (uY rfl Tryd.runUnderlying9) rfl), nB rfl, nM rfl, nQ rfl (by exact qX (yz rfl) rfl), nQ rfl (by exact qX (xw rfl Tryd.runUnderlying118 rfl Tryd.sizeOf63 rfl) rfl), nQ rfl (by exact qX (xw rfl Tryd.runUnderlying63 rfl Tryd.sizeOf3 rfl) rfl), nQ rfl (by exact qX (x5 0 rfl M5 rfl rfl Tryd.isAgg3) rfl), nB rfl, nB rfl, nQ rfl (by exact qX (xA rfl) (congrArg (Value.bool) Nd.symm)), trivial⟩) fun a w hS => ?_
  replace hS := hS.env2 (e' := [(0, qL M6 0), (1, .int .i64 M3), (20, .bool Nr)]) ⟨rfl, rfl, rfl, trivial⟩
  refine qe <| qF hS rfl hM (fun Nk hM => ?_) (fun Nk hM => ?_)
  ·refine wp_seq ?_
   refine zM <| sA hS rfl fun hS => sA hS rfl fun hS => qA <| wp_ret <| x6 (zk ?_)
   exact zE (rs := [4, 5]) hS rfl rfl (hret (0 : Int) (2 : Int) M4.place_.at_ M8 _ (q8 hM) M5 (hS.st.pick [0] (by kernel_rfl)))
  ·refine wp_skip ?_
   refine zx (qe ?_)
   refine qm <| sA hS rfl fun hS => qA <| qm <| sM hS rfl fun hS => sO hS (yz rfl) rfl fun hS => sO hS (xw rfl Tryd.runUnderlying118 rfl Tryd.sizeOf63 rfl) rfl fun hS => sO hS (xw rfl Tryd.runUnderlying63 rfl Tryd.sizeOf3 rfl) rfl fun hS => sO hS (x5 0 rfl M5 rfl rfl Tryd.isAgg3) rfl fun hS => sO hS (quo rfl rfl rfl) rfl fun hS => zF (v := Value.int .i64) (x0 := (yb .i64 M4.place_.at_ (8 : Int))) hS (xA rfl) rfl fun M7 a w hz hS => ?_
   have hM := qz hz hM; clear hz
   refine qA <| zl (fun a w => ∃ (Nc : Int), Ss 93 [] [(0, qL M6 0), (1, .int .i64 M3), (6, .int .u64 Nc)] H [M8] F a w ∧ (zI.j2 K M4 M3 Nc).wp kr kp) (fun NA Ni => ?_) ?_
   ·refine wp_seq ?_
    refine zM <| sA hS rfl fun hS => qA <| xQ <| zv (fun Nq a w => ∃ (Nb : Int) (M9 : Int), Ss 93 [] [(0, qL M6 0), (1, .int .i64 M3), (6, .int .u64 Nb), (7, .int .i64 M7), (8, .int .i64 M9)] H [M8] F a w ∧ (zI.l1 K M4 M3 M7 Nq Nb M9).wp kr kp) K ?_ ?_ ?_
    ·exact ⟨(0 : Int), (0 : Int), hS.to [0] (by kernel_rfl) ⟨rfl, rfl, rfl, rfl, rfl, trivial⟩, hM⟩
    ·intro a w hI; obtain ⟨_, _, _, hM⟩ := hI; exact zu hM
    ·intro Nq a w hI Nz Nh
     obtain ⟨Nb, M9, hS, hM⟩ := hI
     rw [zI.l1] at hM
     refine wp_seq <| qm <| sM hS rfl fun hS => sM hS rfl fun hS => sB hS rfl fun hS => sB hS rfl fun hS => sM hS rfl fun hS => sO hS (yz rfl) rfl fun hS => sO hS (xw rfl Tryd.runUnderlying118 rfl Tryd.sizeOf63 rfl) rfl fun hS => sO hS (xw rfl Tryd.runUnderlying63 rfl Tryd.sizeOf3 rfl) rfl fun hS => sO hS (x5 0 rfl M5 rfl rfl Tryd.isAgg3) rfl fun hS => sM hS rfl fun hS => sB hS rfl fun hS => sB hS rfl fun hS => qA <| qF hS rfl hM (fun Nl hM => ?_) (fun Nl hM => ?_)
     ·refine wp_skip ?_
      refine qe <| wp_seq <| xQ <| zM <| sM hS rfl fun hS => sM hS rfl fun hS => sO hS (yz rfl) rfl fun hS => sO hS (xw rfl Tryd.runUnderlying118 rfl Tryd.sizeOf9 rfl) rfl fun hS => sO hS (x5 0 rfl M5 rfl rfl Tryd.isAgg9) rfl fun hS => sM hS rfl fun hS => sM hS rfl fun hS => sB hS rfl fun hS => ?_
      obtain ⟨Nm, hM⟩ := qK hM
      refine sO hS (Up rfl rfl Tryd.runUnderlying9 Nm) rfl fun hS => sO hS (ux rfl Tryd.runUnderlying5 Tryd.runUnderlying36) rfl fun hS => sM hS rfl fun hS => sB hS rfl fun hS => ?_
      obtain ⟨Nn, hM⟩ := qK hM
      refine sO hS (shl rfl rfl Nn) rfl fun hS => sB hS rfl fun hS => zF (v := Value.int .u64) (x0 := (QS .u64 Nb (z8 .u64 (wr .u64 ((rd M4.text_ (qg (M7 + M9))).toNat : Int)) (qg ((8 : Int) * M9))))) hS (xA rfl) rfl fun Nw a w hz hS => ?_
      have hM := qz hz hM; clear hz
      refine zo <| zx (qe ?_)
      refine zM <| sM hS rfl fun hS => sB hS rfl fun hS => zF (v := Value.int .i64) (x0 := (qg (M9 + (1 : Int)))) hS (xA rfl) rfl fun Nv a w hz hS => ?_
      have hM := qz hz hM; clear hz
      refine zo <| qe ?_
      exact Nh _ _ ⟨Nw, Nv, hS.to [0] (by kernel_rfl) ⟨rfl, rfl, rfl, rfl, rfl, trivial⟩, hM⟩
     ·refine wp_exit ?_
      refine qE (qE (zd (qe ?_)))
      exact Ni _ _ ⟨Nb, hS.to [0] (by kernel_rfl) ⟨rfl, rfl, rfl, trivial⟩, hM⟩
   ·intro a w hI
    obtain ⟨Nc, hS, hM⟩ := hI
    rw [zI.j2] at hM
    refine qm <| sM hS rfl fun hS => sM hS rfl fun hS => sO hS (yz rfl) rfl fun hS => sO hS (xw rfl Tryd.runUnderlying118 rfl Tryd.sizeOf63 rfl) rfl fun hS => sO hS (xw rfl Tryd.runUnderlying63 rfl Tryd.sizeOf3 rfl) rfl fun hS => sO hS (x5 0 rfl M5 rfl rfl Tryd.isAgg3) rfl fun hS => sB hS rfl fun hS => ?_
    obtain ⟨No, hM⟩ := qK hM
    refine sO hS (shr rfl rfl No) rfl fun hS => zF (v := Value.int .u64) (x0 := (xb .u64 Nc (xH .i64 M4.place_.at_ (7 : Int)))) hS (xA rfl) rfl fun Nx a w hz hS => ?_
    have hM := qz hz hM; clear hz
    refine qA <| qm <| sM hS rfl fun hS => sO hS (yz rfl) rfl fun hS => sO hS (xw rfl Tryd.runUnderlying118 rfl Tryd.sizeOf63 rfl) rfl fun hS => sO hS (xw rfl Tryd.runUnderlying63 rfl Tryd.sizeOf3 rfl) rfl fun hS => sO hS (x5 0 rfl M5 rfl rfl Tryd.isAgg3) rfl fun hS => sM hS rfl fun hS => sB hS rfl fun hS => sO hS (yz rfl) rfl fun hS => sO hS (xw rfl Tryd.runUnderlying118 rfl Tryd.sizeOf63 rfl) rfl fun hS => sO hS (xw rfl Tryd.runUnderlying63 rfl Tryd.sizeOf3 rfl) rfl fun hS => J7 0 ([.int .i64 (qg (M4.place_.at_ + M3)), xf M4.text_]) hS rfl rfl M5 rfl rfl rfl rfl Tryd.sizeOf3 fun w Nu Ng hS => qA <| qm <| sM hS rfl fun hS => sM hS rfl fun hS => ?_
    obtain ⟨Np, hM⟩ := qK hM
    refine sO hS (shl rfl rfl Np) rfl fun hS => sB hS rfl fun hS => sB hS rfl fun hS => sO hS (ux rfl Tryd.runUnderlying36 Tryd.runUnderlying25) rfl fun hS => zF (v := Value.int .u32) (x0 := (wr .u32 (xH .u64 Nx (wr .u64 ((z8 .u64 (1 : Int) M3) - (1 : Int)))))) hS (xA rfl) rfl fun Ny a w hz hS => ?_
    have hM := qz hz hM; clear hz
    refine sA hS rfl fun hS => qA <| wp_ret ?_
    exact zE (rs := [4, 5]) hS rfl rfl (hret Ny (0 : Int) (qg (M4.place_.at_ + M3)) Nu _ (q8 hM) Ng (hS.st.pick [0] (by kernel_rfl)))
theorem jO {H : xT} {F : List qk} {w : World} {R : Ending → World → Prop} {kr : Unit → Prop} {kp : Value → Prop} (hG : Gl H) (K : Nat) (M3 : Int)
    (hS : St w H [] F) (hm : (yw.m K M3).wp kr kp)
    (hret : ∀ (w : World), kr () → St w H [] F → R (.returned (.tuple ⟨[]⟩)) w)
    (hpan : ∀ v w, kp v → St w H [] F → R (.panicked [⟨v, false, false⟩]) w) :
    Calls Tryd.prog 79 ⟨[.int .i64 M3]⟩ w R := by
 refine enter Tryd.func79 rfl Tryd.ntmps79 rfl hS fun a w hS => ?_
 have hM := hm; clear hm
 rw [yw.m] at hM
 refine qm <| sM hS rfl fun hS => sB hS rfl fun hS => qA <| qF hS rfl hM (fun M4 hM => ?_) (fun M4 hM => ?_)
 ·refine zM ?_
  refine sM hS rfl fun hS => sO hS (Xw ([.int .i64 M3]) [(0, 1)] Tryd.zeroValue92 Tryd.runUnderlying92 (by intro w; simp [Tryd.sizeOf28]) rfl rfl) rfl fun hS => sO hS (Lv rfl Tryd.runUnderlying92 rfl) rfl fun hS => QO hS rfl ?_
  exact ⟨hS.ev.defs, hpan _ _ (Xa hM) hS.st.frame⟩
 ·refine wp_skip ?_
  exact jS (rs := []) hS rfl rfl (hret _ (q8 hM) (hS.st.pick [] (by kernel_rfl)))
theorem z5 {H : xT} {F : List qk} {w : World} {R : Ending → World → Prop} {kr : (Int × Int) → Prop} {kp : Value → Prop} (hG : Gl H) (K : Nat) (M3 : qx) (M7 : Int) (Nd : Nat) (M5 : qk) (M8 : Nat) (Na : qk) (Nc : Option Addr) (Nf : Nat) (M6 : qk) (Nh : xM M5 Nd ([qL M8 0, .slice Nc M3.out_.length Nf, .int .i64 M3.limit_]) 97) (Ni : xM Na M8 ([.int .i64 M3.Reader_.place_.at_, xf M3.Reader_.text_]) 118) (No : xj 5 (ci .u8) 1 Nc M3.out_ Nf M6)
    (hS : St w H [M5, Na, M6] F) (hm : (zO.m K M3 M7).wp kr kp)
    (hret : ∀ (Nj : Int) (M4 : Int) (Ng : qk) (w : World), kr (Nj, M4) → (xM Ng M8 ([.int .i64 M4, xf M3.Reader_.text_]) 118) → St w H [M5, Ng, M6] F → R (.returned (.int .i64 Nj)) w)
    (hpan : ∀ v w, kp v → St w H [] F → R (.panicked [⟨v, false, false⟩]) w) :
    Calls Tryd.prog 60 ⟨[qL Nd 0, .int .i64 M7]⟩ w R := by
 refine enter Tryd.func60 rfl Tryd.ntmps60 rfl hS fun a w hS => ?_
 have hM := hm; clear hm
 rw [zO.m] at hM
 refine qm <| sA hS rfl fun hS => qA <| qm <| sM hS rfl fun hS => sO hS (yz rfl) rfl fun hS => sO hS (xw rfl Tryd.runUnderlying97 rfl Tryd.sizeOf94 rfl) rfl fun hS => sO hS (x5 0 rfl Nh rfl rfl Tryd.isAgg94) rfl fun hS => sM hS rfl fun hS => qI hS rfl Tryd.call78 (vL hG K M3.Reader_ M7 M8 Na Ni (hS.st.part 1 [1, 0, 2] (by kernel_rfl)) (qt hM) (fun Nm Nn M9 Nb w hM Nk hst => qB hS.ev hst.appF rfl fun hS => ?_))
 replace hS : Ss _ _ _ H [Nb, M5, M6] F _ _ := hS
 refine sM hS rfl fun hS => sO hS (ex rfl rfl) rfl fun hS => sO hS (ex rfl rfl) rfl fun hS => sA hS rfl fun hS => sA hS rfl fun hS => qA <| qm <| sM hS rfl fun hS => qI hS rfl Tryd.call79 (jO hG K Nn (hS.st.part 0 [0, 1, 2] (by kernel_rfl)) (qt hM) (fun  w hM  hst => qB hS.ev hst.appF rfl fun hS => ?_) (fun v w hk hst => xo (qD (⟨hS.ev.defs, hpan _ _ hk hst.appF.frame⟩))))
 replace hS : Ss _ _ _ H [Nb, M5, M6] F _ _ := hS
 refine qA <| qm <| sM hS rfl fun hS => sO hS (ux rfl Tryd.runUnderlying25 Tryd.runUnderlying3) rfl fun hS => zF (v := Value.int .i64) (x0 := (wr .i64 Nm)) hS (xA rfl) rfl fun Nl a w hz hS => ?_
 have hM := qz hz hM; clear hz
 refine qA <| wp_ret ?_
 exact zE (rs := [4]) hS rfl rfl (hret Nl M9 Nb _ (q8 hM) Nk (hS.st.pick [1, 0, 2] (by kernel_rfl)))
theorem jX {H : xT} {F : List qk} {w : World} {R : Ending → World → Prop} {kr : Int → Prop} {kp : Value → Prop} (hG : Gl H) (K : Nat) (M3 : qG) (M6 : Nat) (M7 : qk) (M5 : xM M7 M6 ([.int .i64 M3.place_.at_, xf M3.text_]) 118)
    (hS : St w H [M7] F) (hm : (xW.m K M3).wp kr kp)
    (hret : ∀ (M4 : Int) (M8 : qk) (w : World), kr M4 → (xM M8 M6 ([.int .i64 M4, xf M3.text_]) 118) → St w H [M8] F → R (.returned (.tuple ⟨[]⟩)) w) :
    Calls Tryd.prog 89 ⟨[qL M6 0]⟩ w R := by
 refine enter Tryd.func89 rfl Tryd.ntmps89 rfl hS fun a w hS => ?_
 have hM := hm; clear hm
 rw [xW.m] at hM
 refine zM <| sM hS rfl fun hS => sM hS rfl fun hS => sO hS (yz rfl) rfl fun hS => sO hS (xw rfl Tryd.runUnderlying63 rfl Tryd.sizeOf3 rfl) rfl fun hS => sO hS (x5 0 rfl M5 rfl rfl Tryd.isAgg3) rfl fun hS => sB hS rfl fun hS => sB hS rfl fun hS => sO hS (yz rfl) rfl fun hS => sO hS (xw rfl Tryd.runUnderlying63 rfl Tryd.sizeOf3 rfl) rfl fun hS => J7 0 ([.int .i64 (YY .i64 (qg (M3.place_.at_ + (7 : Int))) (7 : Int)), xf M3.text_]) hS rfl rfl M5 rfl rfl rfl rfl Tryd.sizeOf3 fun w Na M9 hS => zo ?_
 exact jS (rs := []) hS rfl rfl (hret (YY .i64 (qg (M3.place_.at_ + (7 : Int))) (7 : Int)) Na _ (q8 hM) M9 (hS.st.pick [0] (by kernel_rfl)))
theorem vy {H : xT} {F : List qk} {w : World} {R : Ending → World → Prop} {kr : ((List UInt8) × Int × Int) → Prop} {kp : Value → Prop} (hG : Gl H) (K : Nat) (M5 : qG) (M6 : Int) (M4 : Nat) (Na : qk) (Nb : xM Na M4 ([.int .i64 M5.place_.at_, xf M5.text_]) 118)
    (hS : St w H [Na] F) (hm : (yo.m K M5 M6).wp kr kp)
    (hret : ∀ (Nl : List UInt8) (Nm : Int) (M8 : Int) (Nf : qk) (w : World), kr (Nl, Nm, M8) → (xM Nf M4 ([.int .i64 M8, xf M5.text_]) 118) → St w H [Nf] F → R (.returned (.tuple ⟨[xf Nl, .int .i64 Nm]⟩)) w) :
    Calls Tryd.prog 80 ⟨[qL M4 0, .int .i64 M6]⟩ w R := by
 refine enter Tryd.func80 rfl Tryd.ntmps80 rfl hS fun a w hS => ?_
 have hM := hm; clear hm
 rw [yo.m] at hM
 refine qm <| sA hS rfl fun hS => sA hS rfl fun hS => qA <| wp_seq <| qm <| sM hS rfl fun hS => sO hS (XV rfl rfl Tryd.runUnderlying94) rfl fun hS => sM hS rfl fun hS => z2 hS rfl rfl rfl rfl (mv rfl) rfl fun a w hS => z2 hS rfl rfl rfl rfl (jv rfl rfl rfl) rfl fun a w hS => sO hS (pk rfl rfl rfl) rfl fun hS => qA <| qF hS rfl hM (fun Nh hM => ?_) (fun Nh hM => ?_)
 ·refine wp_seq ?_
  refine zM <| sA hS rfl fun hS => sA hS rfl fun hS => qA <| wp_ret <| zk ?_
  exact zE (rs := [4, 5]) hS rfl rfl (hret ([] : List UInt8) (1 : Int) M5.place_.at_ Na _ (q8 hM) Nb (hS.st.pick [0] (by kernel_rfl)))
 ·refine wp_skip ?_
  refine qe <| qm <| sM hS rfl fun hS => sO hS (yz rfl) rfl fun hS => sO hS (xw rfl Tryd.runUnderlying118 rfl Tryd.sizeOf63 rfl) rfl fun hS => qI hS rfl Tryd.call89 (jX hG K M5 M4 Na Nb (hS.st.part 1 [0] (by kernel_rfl)) (qt hM) (fun M3 Nd w hM M9 hst => qB hS.ev hst.appF rfl fun hS => ?_))
  replace hS : Ss _ _ _ H [Nd] F _ _ := hS
  refine qA <| wp_seq ?_
  obtain ⟨Nj, hM⟩ := qK hM
  obtain ⟨M7, Nc⟩ : ∃ x, x = (sub M5.text_ (yb .i64 M3 (8 : Int)) (M5.text_.length : Int)) := ⟨_, rfl⟩
  replace hM := qz Nc hM
  refine q9 (vals := [some (qL M4 0), some (qL M4 0), some (qL M4 1), some (xf M5.text_), some (qL M4 0), some (qL M4 0), some (qL M4 0), some (qL M4 0), some (.int .i64 M3), some (.int .i64 (yb .i64 M3 (8 : Int))), some (xf (sub M5.text_ (yb .i64 M3 (8 : Int)) (M5.text_.length : Int))), some (xf M7)]) hS xF rfl ?_
  intro l w ho hcl hA hst
  refine yk hA hst ho hcl xG [0, 1, 2, 3, 4, 5, 6, 7, 8, 9, 10, 11] rfl rfl rfl (by exact ⟨nM rfl, nQ rfl (by exact qX (yz rfl) rfl), nQ rfl (by exact qX (xw rfl Tryd.runUnderlying118 rfl Tryd.sizeOf9 rfl) rfl), nQ rfl (by exact qX (x5 0 rfl M9 rfl rfl Tryd.isAgg9) rfl), nM rfl, nQ rfl (by exact qX (yz rfl) rfl), nQ rfl (by exact qX (xw rfl Tryd.runUnderlying118 rfl Tryd.sizeOf63 rfl) rfl), nQ rfl (by exact qX (xw rfl Tryd.runUnderlying63 rfl Tryd.sizeOf3 rfl) rfl), nQ rfl (by exact qX (x5 0 rfl M9 rfl rfl Tryd.isAgg3) rfl), nQ rfl (by exact qX (quo rfl rfl rfl) rfl), nQ rfl (by exact qX (Lp rfl Tryd.runUnderlying9 (Lb rfl) G5 Nj) rfl), nQ rfl (by exact qX (xA rfl) (congrArg (xf) Nc.symm)), trivial⟩) fun a w hS => ?_
  replace hS := hS.env2 (e' := [(0, qL M4 0), (1, .int .i64 M6), (6, xf M7)]) ⟨rfl, rfl, rfl, trivial⟩
  refine qe <| wp_seq <| qm <| sM hS rfl fun hS => sM hS rfl fun hS => sO hS (uY rfl Tryd.runUnderlying9) rfl fun hS => sB hS rfl fun hS => qA <| qF hS rfl hM (fun Ni hM => ?_) (fun Ni hM => ?_)
  ·refine wp_seq ?_
   refine zM <| sA hS rfl fun hS => sA hS rfl fun hS => qA <| wp_ret <| zk ?_
   exact zE (rs := [4, 5]) hS rfl rfl (hret ([] : List UInt8) (2 : Int) M3 Nd _ (q8 hM) M9 (hS.st.pick [0] (by kernel_rfl)))
  ·refine wp_skip ?_
   refine qe <| qm <| sM hS rfl fun hS => sO hS (yz rfl) rfl fun hS => sO hS (xw rfl Tryd.runUnderlying118 rfl Tryd.sizeOf63 rfl) rfl fun hS => sO hS (xw rfl Tryd.runUnderlying63 rfl Tryd.sizeOf3 rfl) rfl fun hS => sO hS (x5 0 rfl M9 rfl rfl Tryd.isAgg3) rfl fun hS => sM hS rfl fun hS => sB hS rfl fun hS => sB hS rfl fun hS => sO hS (yz rfl) rfl fun hS => sO hS (xw rfl Tryd.runUnderlying118 rfl Tryd.sizeOf63 rfl) rfl fun hS => sO hS (xw rfl Tryd.runUnderlying63 rfl Tryd.sizeOf3 rfl) rfl fun hS => J7 0 ([.int .i64 (qg (M3 + (qg ((8 : Int) * M6)))), xf M5.text_]) hS rfl rfl M9 rfl rfl rfl rfl Tryd.sizeOf3 fun w Nn Ng hS => qA <| qm <| sM hS rfl fun hS => sM hS rfl fun hS => ?_
   obtain ⟨Nk, hM⟩ := qK hM
   refine sO hS (Lp rfl Tryd.runUnderlying9 Lu (DR rfl) Nk) rfl fun hS => zF (v := xf) (x0 := (sub M7 (0 : Int) M6)) hS (xA rfl) rfl fun No a w hz hS => ?_
   have hM := qz hz hM; clear hz
   refine sA hS rfl fun hS => qA <| wp_ret ?_
   exact zE (rs := [4, 5]) hS rfl rfl (hret No (0 : Int) (qg (M3 + (qg ((8 : Int) * M6)))) Nn _ (q8 hM) Ng (hS.st.pick [0] (by kernel_rfl)))
theorem xc {H : xT} {F : List qk} {w : World} {R : Ending → World → Prop} {kr : Unit → Prop} {kp : Value → Prop} (hG : Gl H) (K : Nat) (M3 : Bool) (M4 : Int)
    (hS : St w H [] F) (hm : (zL.m K M3 M4).wp kr kp)
    (hret : ∀ (w : World), kr () → St w H [] F → R (.returned (.tuple ⟨[]⟩)) w)
    (hpan : ∀ v w, kp v → St w H [] F → R (.panicked [⟨v, false, false⟩]) w) :
    Calls Tryd.prog 65 ⟨[.bool M3, .int .i64 M4]⟩ w R := by
 refine enter Tryd.func65 rfl Tryd.ntmps65 rfl hS fun a w hS => ?_
 have hM := hm; clear hm
 rw [zL.m] at hM
 refine qm <| sM hS rfl fun hS => qA <| qF hS rfl hM (fun M5 hM => ?_) (fun M5 hM => ?_)
 ·refine zM ?_
  refine sM hS rfl fun hS => sO hS (Xw ([.int .i64 M4]) [(0, 1)] Tryd.zeroValue92 Tryd.runUnderlying92 (by intro w; simp [Tryd.sizeOf28]) rfl rfl) rfl fun hS => sO hS (Lv rfl Tryd.runUnderlying92 rfl) rfl fun hS => QO hS rfl ?_
  exact ⟨hS.ev.defs, hpan _ _ (Xa hM) hS.st.frame⟩
 ·refine wp_skip ?_
  exact jS (rs := []) hS rfl rfl (hret _ (q8 hM) (hS.st.pick [] (by kernel_rfl)))
theorem uE {H : xT} {F : List qk} {w : World} {R : Ending → World → Prop} {kr : (Int × (List Int)) → Prop} {kp : Value → Prop} (hG : Gl H) (K : Nat) (M5 : qx) (M6 : Nat) (M8 : qk) (Na : Nat) (Nm : qk) (Nd : Option Addr) (Nf : Nat) (M9 : qk) (M7 : xM M8 M6 ([qL Na 0, .slice Nd M5.out_.length Nf, .int .i64 M5.limit_]) 97) (Nu : xM Nm Na ([.int .i64 M5.Reader_.place_.at_, xf M5.Reader_.text_]) 118) (Nw : xj 5 (ci .u8) 1 Nd M5.out_ Nf M9)
    (hS : St w H [M8, Nm, M9] F) (hm : (x8.m K M5).wp kr kp)
    (hret : ∀ (Nc : Int) (Nr : qk) (No : Option Addr) (Nq : Nat) (Nb : (List Int)) (Ns : qk) (Nt : qk) (w : World), kr (Nc, Nb) → (xM Nr Na ([.int .i64 Nc, xf M5.Reader_.text_]) 118) → (xj 5 (ci .u8) 1 No Nb Nq Ns) → (xM Nt M6 ([qL Na 0, .slice No Nb.length Nq, .int .i64 M5.limit_]) 97) → St w H [Nt, Nr, Ns] F → R (.returned (.tuple ⟨[]⟩)) w)
    (hpan : ∀ v w, kp v → St w H [] F → R (.panicked [⟨v, false, false⟩]) w) :
    Calls Tryd.prog 61 ⟨[qL M6 0]⟩ w R := by
 refine enter Tryd.func61 rfl Tryd.ntmps61 rfl hS fun a w hS => ?_
 have hM := hm; clear hm
 rw [x8.m] at hM
 refine qm <| sM hS rfl fun hS => sO hS (yz rfl) rfl fun hS => sO hS (xw rfl Tryd.runUnderlying97 rfl Tryd.sizeOf94 rfl) rfl fun hS => sO hS (x5 0 rfl M7 rfl rfl Tryd.isAgg94) rfl fun hS => qI hS rfl Tryd.call80 (vy hG K M5.Reader_ (4 : Int) Na Nm Nu (hS.st.part 1 [1, 0, 2] (by kernel_rfl)) (qt hM) (fun M3 NH Nk Ng w hM NF hst => qB hS.ev hst.appF rfl fun hS => ?_))
 replace hS : Ss _ _ _ H [Ng, M8, M9] F _ _ := hS
 refine sM hS rfl fun hS => sO hS (ex rfl rfl) rfl fun hS => sO hS (ex rfl rfl) rfl fun hS => sA hS rfl fun hS => sA hS rfl fun hS => qA <| qm <| sM hS rfl fun hS => qI hS rfl Tryd.call79 (jO hG K NH (hS.st.part 0 [0, 1, 2] (by kernel_rfl)) (qt hM) (fun  w hM  hst => qB hS.ev hst.appF rfl fun hS => ?_) (fun v w hk hst => xo (qD (⟨hS.ev.defs, hpan _ _ hk hst.appF.frame⟩))))
 replace hS : Ss _ _ _ H [Ng, M8, M9] F _ _ := hS
 refine qA <| wp_seq ?_
 obtain ⟨Ny, hM⟩ := qK hM
 obtain ⟨Nz, hM⟩ := qK hM
 obtain ⟨M4, Ni⟩ : ∃ x, x = (QS .i64 (wr .i64 ((rd M3 (0 : Int)).toNat : Int)) (z8 .i64 (wr .i64 ((rd M3 (1 : Int)).toNat : Int)) (8 : Int))) := ⟨_, rfl⟩
 replace hM := qz Ni hM
 refine q9 (vals := [some (xf M3), some (.int .u8 ((rd M3 (0 : Int)).toNat : Int)), some (.int .i64 (wr .i64 ((rd M3 (0 : Int)).toNat : Int))), some (xf M3), some (.int .u8 ((rd M3 (1 : Int)).toNat : Int)), some (.int .i64 (wr .i64 ((rd M3 (1 : Int)).toNat : Int))), some (.int .i64 (z8 .i64 (wr .i64 ((rd M3 (1 : Int)).toNat : Int)) (8 : Int))), some (.int .i64 (QS .i64 (wr .i64 ((rd M3 (0 : Int)).toNat : Int)) (z8 .i64 (wr .i64 ((rd M3 (1 : Int)).toNat : Int)) (8 : Int)))), some (.int .i64 M4)]) hS xF rfl ?_
 intro l w ho hcl hA hst
 refine yk hA hst ho hcl xG [0, 1, 2, 3, 4, 5, 6, 7, 8] rfl rfl rfl (by exact ⟨nM rfl, nQ rfl (by exact qX (Up rfl rfl Tryd.runUnderlying9 Ny) rfl), nQ rfl (by exact qX (ux rfl Tryd.runUnderlying5 Tryd.runUnderlying3) rfl), nM rfl, nQ rfl (by exact qX (Up rfl rfl Tryd.runUnderlying9 Nz) rfl), nQ rfl (by exact qX (ux rfl Tryd.runUnderlying5 Tryd.runUnderlying3) rfl), nQ rfl (by exact qX (shl rfl rfl rfl) rfl), nB rfl, nQ rfl (by exact qX (xA rfl) (congrArg (Value.int .i64) Ni.symm)), trivial⟩) fun a w hS => ?_
 replace hS := hS.env2 (e' := [(0, qL M6 0), (2, xf M3), (4, .int .i64 M4)]) ⟨rfl, rfl, rfl, trivial⟩
 refine qe <| wp_seq ?_
 obtain ⟨NA, hM⟩ := qK hM
 obtain ⟨NB, hM⟩ := qK hM
 refine q9 (vals := [some (xf M3), some (.int .u8 ((rd M3 (2 : Int)).toNat : Int)), some (.int .i64 (wr .i64 ((rd M3 (2 : Int)).toNat : Int))), some (xf M3), some (.int .u8 ((rd M3 (3 : Int)).toNat : Int)), some (.int .i64 (wr .i64 ((rd M3 (3 : Int)).toNat : Int))), some (.int .i64 (z8 .i64 (wr .i64 ((rd M3 (3 : Int)).toNat : Int)) (8 : Int))), some (.int .i64 (QS .i64 (wr .i64 ((rd M3 (2 : Int)).toNat : Int)) (z8 .i64 (wr .i64 ((rd M3 (3 : Int)).toNat : Int)) (8 : Int)))), some (.int .i64 M4), some (.int .i64 (ub .i64 M4 (65535 : Int))), some (.bool ((QS .i64 (wr .i64 ((rd M3 (2 : Int)).toNat : Int)) (z8 .i64 (wr .i64 ((rd M3 (3 : Int)).toNat : Int)) (8 : Int))) != (ub .i64 M4 (65535 : Int)))), none]) hS xF rfl ?_
 intro l w ho hcl hA hst
 refine jf hA hst ho hcl xu xG 11 [0, 1, 2, 3, 4, 5, 6, 7, 8, 9, 10] rfl rfl rfl rfl rfl (by exact ⟨nM rfl, nQ rfl (by exact qX (Up rfl rfl Tryd.runUnderlying9 NA) rfl), nQ rfl (by exact qX (ux rfl Tryd.runUnderlying5 Tryd.runUnderlying3) rfl), nM rfl, nQ rfl (by exact qX (Up rfl rfl Tryd.runUnderlying9 NB) rfl), nQ rfl (by exact qX (ux rfl Tryd.runUnderlying5 Tryd.runUnderlying3) rfl), nQ rfl (by exact qX (shl rfl rfl rfl) rfl), nB rfl, nM rfl, nB rfl, nB rfl, trivial⟩) fun D l a w ho hcl hav hpre hm hE hk hA hst => ?_
 have hS := (Ss.mk hE hst).env2 (e' := [(34, .bool ((QS .i64 (wr .i64 ((rd M3 (2 : Int)).toNat : Int)) (z8 .i64 (wr .i64 ((rd M3 (3 : Int)).toNat : Int)) (8 : Int))) != (ub .i64 M4 (65535 : Int))))]) ⟨rfl, trivial⟩
 refine qR rfl <| qI hS rfl Tryd.call65 (xc hG K ((QS .i64 (wr .i64 ((rd M3 (2 : Int)).toNat : Int)) (z8 .i64 (wr .i64 ((rd M3 (3 : Int)).toNat : Int)) (8 : Int))) != (ub .i64 M4 (65535 : Int))) (3 : Int) (hS.st.part 0 [0, 1, 2] (by kernel_rfl)) (qt hM) (fun  w hM  hst => qB hS.ev hst.appF rfl fun hS => ?_) (fun v w hk hst => xo (qD (qD (⟨hS.ev.defs, hpan _ _ hk hst.appF.frame⟩)))))
 replace hS : Ss _ _ _ H [Ng, M8, M9] F _ _ := hS
 refine qA ?_
 replace hst := hS.st
 obtain ⟨hcl, hmust, hav2, hA⟩ := dn (vals' := [some (xf M3), some (.int .u8 ((rd M3 (2 : Int)).toNat : Int)), some (.int .i64 (wr .i64 ((rd M3 (2 : Int)).toNat : Int))), some (xf M3), some (.int .u8 ((rd M3 (3 : Int)).toNat : Int)), some (.int .i64 (wr .i64 ((rd M3 (3 : Int)).toNat : Int))), some (.int .i64 (z8 .i64 (wr .i64 ((rd M3 (3 : Int)).toNat : Int)) (8 : Int))), some (.int .i64 (QS .i64 (wr .i64 ((rd M3 (2 : Int)).toNat : Int)) (z8 .i64 (wr .i64 ((rd M3 (3 : Int)).toNat : Int)) (8 : Int)))), some (.int .i64 M4), some (.int .i64 (ub .i64 M4 (65535 : Int))), some (.bool ((QS .i64 (wr .i64 ((rd M3 (2 : Int)).toNat : Int)) (z8 .i64 (wr .i64 ((rd M3 (3 : Int)).toNat : Int)) (8 : Int))) != (ub .i64 M4 (65535 : Int)))), some (.tuple ⟨[]⟩)]) 11 [(10, 11), (7, 10), (9, 10), (2, 7), (6, 7), (8, 9), (1, 2), (5, 6), (0, 1), (4, 5), (3, 4)] hA hcl hav hm hpre hk rfl rfl rfl rfl rfl rfl rfl
 clear hm hav
 refine yk hA hst ho hcl hmust [] rfl rfl rfl trivial fun a w hS => ?_
 replace hS := hS.env2 (e' := [(0, qL M6 0), (4, .int .i64 M4)]) ⟨rfl, rfl, trivial⟩
 refine qe <| qm <| sM hS rfl fun hS => sO hS (yz rfl) rfl fun hS => sO hS (xw rfl Tryd.runUnderlying97 rfl Tryd.sizeOf94 rfl) rfl fun hS => sO hS (x5 1 rfl M7 rfl rfl Tryd.isAgg94) rfl fun hS => sM hS rfl fun hS => qI hS rfl Tryd.call80 (vy hG K (qG.mk (qr.mk Nk) M5.Reader_.text_) M4 Na Ng NF (hS.st.part 1 [0, 1, 2] (by kernel_rfl)) (qt hM) (fun NI NJ Nl Nh w hM NG hst => qB hS.ev hst.appF rfl fun hS => ?_))
 replace hS : Ss _ _ _ H [Nh, M8, M9] F _ _ := hS
 refine sM hS rfl fun hS => sO hS (ex rfl rfl) rfl fun hS => sO hS (ex rfl rfl) rfl fun hS => sA hS rfl fun hS => sA hS rfl fun hS => qA <| qm <| sM hS rfl fun hS => qI hS rfl Tryd.call79 (jO hG K NJ (hS.st.part 0 [0, 1, 2] (by kernel_rfl)) (qt hM) (fun  w hM  hst => qB hS.ev hst.appF rfl fun hS => ?_) (fun v w hk hst => xo (qD (⟨hS.ev.defs, hpan _ _ hk hst.appF.frame⟩))))
 replace hS : Ss _ _ _ H [Nh, M8, M9] F _ _ := hS
 refine qA <| wp_seq <| q9 (vals := [some (qL M6 0), some (qL M6 0), some (qL M6 1), some (.slice Nd M5.out_.length Nf), some (.int .i64 (M5.out_.length : Int)), some (.int .i64 M4), some (.int .i64 (qg ((M5.out_.length : Int) + M4))), some (qL M6 0), some (qL M6 0), some (qL M6 2), some (.int .i64 M5.limit_), some (.bool (decide ((qg ((M5.out_.length : Int) + M4)) > M5.limit_))), none]) hS xF rfl ?_
 intro l w ho hcl hA hst
 refine jf hA hst ho hcl xu xG 12 [0, 1, 2, 3, 4, 5, 6, 7, 8, 9, 10, 11] rfl rfl rfl rfl rfl (by exact ⟨nM rfl, nQ rfl (by exact qX (yz rfl) rfl), nQ rfl (by exact qX (xw rfl Tryd.runUnderlying97 rfl Tryd.sizeOf32 rfl) rfl), nQ rfl (by exact qX (x5 1 rfl M7 rfl rfl Tryd.isAgg32) rfl), nQ rfl (by exact qX (yc rfl Tryd.runUnderlying32) rfl), nM rfl, nB rfl, nM rfl, nQ rfl (by exact qX (yz rfl) rfl), nQ rfl (by exact qX (xw rfl Tryd.runUnderlying97 rfl Tryd.sizeOf3 rfl) rfl), nQ rfl (by exact qX (x5 1 rfl M7 rfl rfl Tryd.isAgg3) rfl), nB rfl, trivial⟩) fun D l a w ho hcl hav hpre hm hE hk hA hst => ?_
 have hS := (Ss.mk hE hst).env2 (e' := [(58, .bool (decide ((qg ((M5.out_.length : Int) + M4)) > M5.limit_)))]) ⟨rfl, trivial⟩
 refine qR rfl <| qI hS rfl Tryd.call65 (xc hG K (decide ((qg ((M5.out_.length : Int) + M4)) > M5.limit_)) (11 : Int) (hS.st.part 0 [0, 1, 2] (by kernel_rfl)) (qt hM) (fun  w hM  hst => qB hS.ev hst.appF rfl fun hS => ?_) (fun v w hk hst => xo (qD (qD (⟨hS.ev.defs, hpan _ _ hk hst.appF.frame⟩)))))
 replace hS : Ss _ _ _ H [Nh, M8, M9] F _ _ := hS
 refine qA ?_
 replace hst := hS.st
 obtain ⟨hcl, hmust, hav2, hA⟩ := dn (vals' := [some (qL M6 0), some (qL M6 0), some (qL M6 1), some (.slice Nd M5.out_.length Nf), some (.int .i64 (M5.out_.length : Int)), some (.int .i64 M4), some (.int .i64 (qg ((M5.out_.length : Int) + M4))), some (qL M6 0), some (qL M6 0), some (qL M6 2), some (.int .i64 M5.limit_), some (.bool (decide ((qg ((M5.out_.length : Int) + M4)) > M5.limit_))), some (.tuple ⟨[]⟩)]) 12 [(11, 12), (6, 11), (10, 11), (4, 6), (5, 6), (9, 10), (3, 4), (8, 9), (2, 3), (7, 8), (1, 2), (0, 1)] hA hcl hav hm hpre hk rfl rfl rfl rfl rfl rfl rfl
 clear hm hav
 refine yk hA hst ho hcl hmust [] rfl rfl rfl trivial fun a w hS => ?_
 replace hS := hS.env2 (e' := [(0, qL M6 0), (5, xf NI)]) ⟨rfl, rfl, trivial⟩
 refine qe <| zM <| sM hS rfl fun hS => sM hS rfl fun hS => sO hS (yz rfl) rfl fun hS => sO hS (xw rfl Tryd.runUnderlying97 rfl Tryd.sizeOf32 rfl) rfl fun hS => sO hS (x5 1 rfl M7 rfl rfl Tryd.isAgg32) rfl fun hS => sM hS rfl fun hS => ?_
 obtain ⟨NC, hM⟩ := qK hM
 refine Mv 2 hS rfl rfl Nw rfl Tryd.runUnderlying32 Tryd.runUnderlying9 X.el5 rfl NC rfl fun Nj w Nn Np ND hz Nx hS => ?_
 have hM := qz hz hM; clear hz
 refine sO hS (yz rfl) rfl fun hS => sO hS (xw rfl Tryd.runUnderlying97 rfl Tryd.sizeOf32 rfl) rfl fun hS => J7 1 ([qL Na 0, .slice Nn Nj.length Np, .int .i64 M5.limit_]) hS rfl rfl M7 rfl rfl rfl rfl Tryd.sizeOf32 fun w NE Nv hS => zo ?_
 exact jS (rs := []) hS rfl rfl (hret Nl Nh Nn Np Nj ND NE _ (q8 hM) NG Nx Nv (hS.st.pick [1, 0, 2] (by kernel_rfl)))
theorem uU {H : xT} {F : List qk} {w : World} {R : Ending → World → Prop} {kr : ((List Int) × Bool) → Prop} {kp : Value → Prop} (hG : Gl H) (K : Nat) (M3 : List Int) (Nq : Option Addr) (Nr : Nat) (Np : jU H [] F (ci .i64) Nq M3) (NJ : M3.length ≤ Nr)
    (hS : St w H [] F) (hm : (xh.m K M3).wp kr kp)
    (hret : ∀ (Nt : (List Int)) (ND : Bool) (w : World), kr (Nt, ND) → (Nt.length = 16) → St w H [] F → R (.returned (.tuple ⟨[.agg ⟨Nt.flatMap (ci .i64)⟩, .bool ND]⟩)) w) :
    Calls Tryd.prog 70 ⟨[.slice Nq M3.length Nr]⟩ w R := by
 refine enter Tryd.func70 rfl Tryd.ntmps70 rfl hS fun a w hS => ?_
 have hM := hm; clear hm
 rw [xh.m] at hM
 refine qm <| QI ((List.replicate 16 (0 : Int)).flatMap (ci .i64)) hS Tryd.zeroValue127 rfl rfl fun w M7 NE Nd hS => sA hS rfl fun hS => qA <| wp_seq <| qm <| sM hS rfl fun hS => sO hS (yc rfl Tryd.runUnderlying66) rfl fun hS => sB hS rfl fun hS => qA <| qF hS rfl hM (fun Ny hM => ?_) (fun Ny hM => ?_)
 ·refine wp_seq ?_
  refine zM <| sO hS (YJ (xs := (List.replicate 16 (0 : Int))) (g := (ci .i64)) (pre := []) (post := []) 0 rfl Nd rfl (by simp) rfl (xg (g := (ci .i64)) (sz := 1) (fun _ => rfl) (List.length_replicate ..)) Tryd.isAgg127 Tryd.sizeOf127) rfl fun hS => YK (xs := (List.replicate 16 (0 : Int))) (ys := (List.replicate 16 (0 : Int))) (g := (ci .i64)) (pre := []) (post := []) 0 hS rfl rfl Nd rfl (by simp) rfl (xg (g := (ci .i64)) (sz := 1) (fun _ => rfl) (List.length_replicate ..)) (xg (g := (ci .i64)) (sz := 1) (fun _ => rfl) (List.length_replicate ..)) (xJ) Tryd.sizeOf127 fun w NF Nf hS => ?_
  replace Nf : xM NF M7 ((List.replicate 16 (0 : Int)).flatMap (ci .i64)) 127 := by simpa using Nf
  refine sA hS rfl fun hS => qA <| wp_ret <| zk ?_
  exact jl (vs := [.agg ⟨(List.replicate 16 (0 : Int)).flatMap (ci .i64)⟩, .bool false]) hS rfl (by exact ⟨LY 0 rfl Nf rfl (xg (g := (ci .i64)) (sz := 1) (fun _ => rfl) (List.length_replicate ..)) Tryd.isAgg127 Tryd.sizeOf127, Lw rfl, trivial⟩) (hret (List.replicate 16 (0 : Int)) false _ (q8 hM) (List.length_replicate ..) (hS.st.pick [] (by kernel_rfl)))
 ·refine wp_skip ?_
  refine qe <| zl (fun a w => ∃ (M8 : (List Int)) (Ns : qk), Ss 31 [] [(2, qL M7 0)] H [Ns] F a w ∧ (M8.length = 16) ∧ (xM Ns M7 (M8.flatMap (ci .i64)) 127) ∧ (xh.j2 K M8).wp kr kp) (fun NL Nx => ?_) ?_
  ·refine wp_seq ?_
   refine zM <| sM hS rfl fun hS => sO hS (yc rfl Tryd.runUnderlying66) rfl fun hS => sM hS rfl fun hS => qA <| xQ <| zv (fun NC a w => ∃ (M4 : (List Int)) (Nm : qk) (Nk : Int), Ss 31 [] [(2, qL M7 0), (10, .slice Nq M3.length Nr), (11, .int .i64 (M3.length : Int)), (12, .int .i64 Nk)] H [Nm] F a w ∧ (M4.length = 16) ∧ (xM Nm M7 (M4.flatMap (ci .i64)) 127) ∧ (xh.l1 K M3 NC M4 Nk).wp kr kp) K ?_ ?_ ?_
   ·exact ⟨(List.replicate 16 (0 : Int)), NE, (0 : Int), hS.to [0] (by kernel_rfl) ⟨rfl, rfl, rfl, rfl, trivial⟩, (List.length_replicate ..), Nd, hM⟩
   ·intro a w hI; obtain ⟨_, _, _, _, _, _, hM⟩ := hI; exact zu hM
   ·intro NC a w hI NK Nw
    obtain ⟨M4, Nm, Nk, hS, M5, M9, hM⟩ := hI
    rw [xh.l1] at hM
    refine qm <| sB hS rfl fun hS => qA <| wp_seq <| qF hS rfl hM (fun Nz hM => ?_) (fun Nz hM => ?_)
    ·refine wp_skip ?_
     refine qe <| wp_seq <| xQ <| wp_seq <| zM ?_
     obtain ⟨Nn, hM⟩ := qK hM
     refine sO hS (yu rfl rfl Tryd.runUnderlying66 Tryd.sizeOf3 Np.wk (fun _ => rfl) rfl Nn) rfl fun hS => sO hS (yG rfl Np.wk (fun _ => rfl) Nn rfl Tryd.isAgg3) rfl fun hS => zF (v := Value.int .i64) (x0 := (rd M3 Nk)) hS (xA rfl) rfl fun Nj a w hz hS => ?_
     have hM := qz hz hM; clear hz
     refine qA <| wp_seq <| qm <| sM hS rfl fun hS => sB hS rfl fun hS => sM hS rfl fun hS => y4 2 false 18 (b := (decide (Nj < (0 : Int)))) (r := (decide (Nj > (15 : Int)))) hS rfl rfl rfl rfl rfl rfl rfl (fun hb a w hS K hK => ?_) rfl fun a w hS => ?_
     ·refine z2 hS rfl rfl rfl hb (mv rfl) rfl fun a w hS => ?_
      refine z2 hS rfl rfl rfl hb (jv rfl rfl rfl) rfl fun a w hS => ?_
      exact zo (hK _ _ (hS.up 2 rfl rfl))
     refine qA <| qF hS rfl hM (fun NA hM => ?_) (fun NA hM => ?_)
     ·refine wp_seq ?_
      refine zM <| sO hS (YJ (xs := M4) (g := (ci .i64)) (pre := []) (post := []) 0 rfl M9 rfl (by simp) rfl (xg (g := (ci .i64)) (sz := 1) (fun _ => rfl) M5) Tryd.isAgg127 Tryd.sizeOf127) rfl fun hS => YK (xs := M4) (ys := M4) (g := (ci .i64)) (pre := []) (post := []) 0 hS rfl rfl M9 rfl (by simp) rfl (xg (g := (ci .i64)) (sz := 1) (fun _ => rfl) M5) (xg (g := (ci .i64)) (sz := 1) (fun _ => rfl) M5) (xJ) Tryd.sizeOf127 fun w NG Ng hS => ?_
      replace Ng : xM NG M7 (M4.flatMap (ci .i64)) 127 := by simpa using Ng
      refine sA hS rfl fun hS => qA <| wp_ret <| zk (x6 (zk (zk (x6 (zk ?_)))))
      exact jl (vs := [.agg ⟨M4.flatMap (ci .i64)⟩, .bool false]) hS rfl (by exact ⟨LY 0 rfl Ng rfl (xg (g := (ci .i64)) (sz := 1) (fun _ => rfl) M5) Tryd.isAgg127 Tryd.sizeOf127, Lw rfl, trivial⟩) (hret M4 false _ (q8 hM) M5 (hS.st.pick [] (by kernel_rfl)))
     ·refine wp_skip ?_
      refine qe <| zM <| sM hS rfl fun hS => ?_
      obtain ⟨Nc, hM⟩ := qK hM
      refine sO hS (Ub rfl rfl Tryd.runUnderlying127 Tryd.sizeOf3 Nc) rfl fun hS => sO hS (LO (xs := M4) (g := (ci .i64)) (pre := []) (post := []) 0 rfl M9 rfl (by simp) rfl (fun _ => rfl) (jc M5 Nc) rfl Tryd.isAgg3) rfl fun hS => sB hS rfl fun hS => sO hS (Ub rfl rfl Tryd.runUnderlying127 Tryd.sizeOf3 Nc) rfl fun hS => Gx (xs := M4) (g := (ci .i64)) (pre := []) (post := []) 0 ((qg ((rd M4 Nj) + (1 : Int)))) hS rfl rfl M9 rfl (by simp) rfl (fun _ => rfl) (jc M5 Nc) rfl Tryd.sizeOf3 (xJ _) fun Nl w Nu hz Nh hS => ?_
      have NB : Nl.length = 16 := by rw [hz, List.length_set]; exact M5
      have hM := qz hz hM; clear hz
      replace Nh : xM Nu M7 (Nl.flatMap (ci .i64)) 127 := by simpa using Nh
      refine zo <| zx (qe ?_)
      refine zM <| sB hS rfl fun hS => sM hS rfl fun hS => zo <| qe ?_
      exact Nw _ _ ⟨Nl, Nu, (qg (Nk + (1 : Int))), hS.to [0] (by kernel_rfl) ⟨rfl, rfl, rfl, rfl, trivial⟩, NB, Nh, hM⟩
    ·refine wp_exit ?_
     refine qE (qE (zd (qe ?_)))
     exact Nx _ _ ⟨M4, Nm, hS.to [0] (by kernel_rfl) ⟨rfl, trivial⟩, M5, M9, hM⟩
  ·intro a w hI
   obtain ⟨M8, Ns, hS, No, Nv, hM⟩ := hI
   rw [xh.j2] at hM
   refine qm <| sO hS (Ub rfl rfl Tryd.runUnderlying127 Tryd.sizeOf3 rfl) rfl fun hS => Gx (xs := M8) (g := (ci .i64)) (pre := []) (post := []) 0 ((0 : Int)) hS rfl rfl Nv rfl (by simp) rfl (fun _ => rfl) (jc No rfl) rfl Tryd.sizeOf3 (xJ _) fun M6 w NH hz Nb hS => ?_
   have Na : M6.length = 16 := by rw [hz, List.length_set]; exact No
   have hM := qz hz hM; clear hz
   replace Nb : xM NH M7 (M6.flatMap (ci .i64)) 127 := by simpa using Nb
   refine qA <| qm <| sO hS (YJ (xs := M6) (g := (ci .i64)) (pre := []) (post := []) 0 rfl Nb rfl (by simp) rfl (xg (g := (ci .i64)) (sz := 1) (fun _ => rfl) Na) Tryd.isAgg127 Tryd.sizeOf127) rfl fun hS => YK (xs := M6) (ys := M6) (g := (ci .i64)) (pre := []) (post := []) 0 hS rfl rfl Nb rfl (by simp) rfl (xg (g := (ci .i64)) (sz := 1) (fun _ => rfl) Na) (xg (g := (ci .i64)) (sz := 1) (fun _ => rfl) Na) (xJ) Tryd.sizeOf127 fun w NI Ni hS => ?_
   replace Ni : xM NI M7 (M6.flatMap (ci .i64)) 127 := by simpa using Ni
   refine sA hS rfl fun hS => qA <| wp_ret ?_
   exact jl (vs := [.agg ⟨M6.flatMap (ci .i64)⟩, .bool true]) hS rfl (by exact ⟨LY 0 rfl Ni rfl (xg (g := (ci .i64)) (sz := 1) (fun _ => rfl) Na) Tryd.isAgg127 Tryd.sizeOf127, Lw rfl, trivial⟩) (hret M6 true _ (q8 hM) Na (hS.st.pick [] (by kernel_rfl)))
theorem Zo {H : xT} {F : List qk} {w : World} {R : Ending → World → Prop} {kr : Int → Prop} {kp : Value → Prop} (hG : Gl H) (K : Nat) (M3 : List Int) (Na : Option Addr) (Nc : Nat) (Np : jU H [] F (ci .i64) Na M3) (Nm : M3.length ≤ Nc)
    (hS : St w H [] F) (hm : (xr.m K M3).wp kr kp)
    (hret : ∀ (Ns : Int) (w : World), kr Ns → St w H [] F → R (.returned (.int .i64 Ns)) w) :
    Calls Tryd.prog 69 ⟨[.slice Na M3.length Nc]⟩ w R := by
 refine enter Tryd.func69 rfl Tryd.ntmps69 rfl hS fun a w hS => ?_
 have hM := hm; clear hm
 rw [xr.m] at hM
 refine qm <| sA hS rfl fun hS => qA <| qm <| sM hS rfl fun hS => qI hS rfl Tryd.call70 (uU hG K M3 Na Nc (Np.app _) Nm (hS.st.part 0 [] (by kernel_rfl)) (qt hM) (fun M6 Nw w hM M9 hst => qB hS.ev hst.appF rfl fun hS => ?_))
 replace hS : Ss _ _ _ H [] F _ _ := hS
 refine sM hS rfl fun hS => sO hS (ex rfl rfl) rfl fun hS => sO hS (ex rfl rfl) rfl fun hS => QI ((List.replicate 16 (0 : Int)).flatMap (ci .i64)) hS Tryd.zeroValue127 rfl rfl fun w Nb Nv Ng hS => YK (xs := (List.replicate 16 (0 : Int))) (ys := M6) (g := (ci .i64)) (pre := []) (post := []) 0 hS rfl rfl Ng rfl (by simp) rfl (xg (g := (ci .i64)) (sz := 1) (fun _ => rfl) (List.length_replicate ..)) (xg (g := (ci .i64)) (sz := 1) (fun _ => rfl) M9) (xJ) Tryd.sizeOf127 fun w Nd M7 hS => ?_
 replace M7 : xM Nd Nb (M6.flatMap (ci .i64)) 127 := by simpa using M7
 refine sA hS rfl fun hS => qA <| wp_seq <| qm <| sM hS rfl fun hS => sO hS (un rfl rfl) rfl fun hS => qA <| qF hS rfl hM (fun Nj hM => ?_) (fun Nj hM => ?_)
 ·refine wp_seq ?_
  refine zM <| sA hS rfl fun hS => qA <| wp_ret <| zk ?_
  exact zE (rs := [2]) hS rfl rfl (hret (1 : Int) _ (q8 hM) (hS.st.pick [] (by kernel_rfl)))
 ·refine wp_skip ?_
  refine qe <| qm <| sA hS rfl fun hS => qA <| zl (fun a w => ∃ (M4 : Int), Ss 38 [] [(3, qL Nb 0), (5, .int .i64 M4)] H [Nd] F a w ∧ (xr.j2 K M6 M4).wp kr kp) (fun Nu Ni => ?_) ?_
  ·refine wp_seq ?_
   refine zM <| sO hS (YJ (xs := M6) (g := (ci .i64)) (pre := []) (post := []) 0 rfl M7 rfl (by simp) rfl (xg (g := (ci .i64)) (sz := 1) (fun _ => rfl) M9) Tryd.isAgg127 Tryd.sizeOf127) rfl fun hS => sM hS rfl fun hS => qA <| xQ <| zv (fun Nq a w => ∃ (M5 : Int) (M8 : Int), Ss 38 [] [(3, qL Nb 0), (5, .int .i64 M5), (15, .agg ⟨M6.flatMap (ci .i64)⟩), (16, .int .i64 M8)] H [Nd] F a w ∧ (xr.l1 K M6 Nq M5 M8).wp kr kp) K ?_ ?_ ?_
   ·exact ⟨(0 : Int), (0 : Int), hS.to [0] (by kernel_rfl) ⟨rfl, rfl, rfl, rfl, trivial⟩, hM⟩
   ·intro a w hI; obtain ⟨_, _, _, hM⟩ := hI; exact zu hM
   ·intro Nq a w hI Nt Nh
    obtain ⟨M5, M8, hS, hM⟩ := hI
    rw [xr.l1] at hM
    refine qm <| sB hS rfl fun hS => qA <| wp_seq <| qF hS rfl hM (fun Nk hM => ?_) (fun Nk hM => ?_)
    ·refine wp_skip ?_
     refine qe <| wp_seq <| xQ <| qm <| sM hS rfl fun hS => ?_
     obtain ⟨Nn, hM⟩ := qK hM
     refine sO hS (Mk rfl rfl Tryd.runUnderlying127 Tryd.isAgg3 Tryd.sizeOf3 (fun _ => rfl) M9 Nn rfl) rfl fun hS => sA hS rfl fun hS => zF (v := Value.int .i64) (x0 := (rd M6 M8)) hS (xA rfl) rfl fun Nr a w hz hS => ?_
     have hM := qz hz hM; clear hz
     refine qA <| zM <| sM hS rfl fun hS => sM hS rfl fun hS => sM hS rfl fun hS => ?_
     obtain ⟨No, hM⟩ := qK hM
     refine sO hS (shr rfl rfl No) rfl fun hS => sB hS rfl fun hS => sB hS rfl fun hS => zF (v := Value.int .i64) (x0 := (qg (M5 + (qg (Nr * (xb .i64 (32768 : Int) M8)))))) hS (xA rfl) rfl fun Nf a w hz hS => ?_
     have hM := qz hz hM; clear hz
     refine zo <| zx (qe ?_)
     refine zM <| sB hS rfl fun hS => sM hS rfl fun hS => zo <| qe ?_
     exact Nh _ _ ⟨Nf, (qg (M8 + (1 : Int))), hS.to [0] (by kernel_rfl) ⟨rfl, rfl, rfl, rfl, trivial⟩, hM⟩
    ·refine wp_exit ?_
     refine qE (qE (zd (qe ?_)))
     exact Ni _ _ ⟨M5, hS.to [0] (by kernel_rfl) ⟨rfl, rfl, trivial⟩, hM⟩
  ·intro a w hI
   obtain ⟨M4, hS, hM⟩ := hI
   rw [xr.j2] at hM
   refine wp_seq <| qm <| sM hS rfl fun hS => sB hS rfl fun hS => sM hS rfl fun hS => y4 2 false 29 (b := (M4 == (0 : Int))) (r := (M4 == (32768 : Int))) hS rfl rfl rfl rfl rfl rfl rfl (fun hb a w hS K hK => ?_) rfl fun a w hS => ?_
   ·refine z2 hS rfl rfl rfl hb (mv rfl) rfl fun a w hS => ?_
    refine z2 hS rfl rfl rfl hb (jv rfl rfl rfl) rfl fun a w hS => ?_
    exact zo (hK _ _ (hS.up 2 rfl rfl))
   refine sM hS rfl fun hS => y4 3 false 33 (b := ((M4 == (0 : Int)) || (M4 == (32768 : Int)))) (r := (M6 == ([0, (1 : Int), 0, 0, 0, 0, 0, 0, 0, 0, 0, 0, 0, 0, 0, 0] : List Int))) hS rfl rfl rfl rfl rfl rfl rfl (fun hb a w hS K hK => ?_) rfl fun a w hS => ?_
   ·refine z2 hS rfl rfl rfl hb (YJ (xs := M6) (g := (ci .i64)) (pre := []) (post := []) 0 rfl M7 rfl (by simp) rfl (xg (g := (ci .i64)) (sz := 1) (fun _ => rfl) M9) Tryd.isAgg127 Tryd.sizeOf127) rfl fun a w hS => ?_
    refine z2 hS rfl rfl rfl hb (Bh (([0, (1 : Int), 0, 0, 0, 0, 0, 0, 0, 0, 0, 0, 0, 0, 0, 0] : List Int).flatMap (ci .i64)) Tryd.zeroValue127 Tryd.runUnderlying127 Tryd.sizeOf3 rfl (by kernel_rfl)) rfl fun a w hS => z2 hS rfl rfl rfl hb (GG rfl rfl Tryd.runUnderlying127 Tryd.runUnderlying3 Tryd.sizeOf3 Tryd.isAgg3 M9 rfl Tryd.eqGuardType127 rfl) rfl fun a w hS => ?_
    exact zo (hK _ _ (hS.up 3 rfl rfl))
   refine qA <| qF hS rfl hM (fun Nl hM => ?_) (fun Nl hM => ?_)
   ·refine wp_seq ?_
    refine zM <| sA hS rfl fun hS => qA <| wp_ret <| zk ?_
    exact zE (rs := [2]) hS rfl rfl (hret (0 : Int) _ (q8 hM) (hS.st.pick [] (by kernel_rfl)))
   ·refine wp_skip ?_
    refine qe <| qm <| sA hS rfl fun hS => qA <| wp_ret ?_
    exact zE (rs := [2]) hS rfl rfl (hret (3 : Int) _ (q8 hM) (hS.st.pick [] (by kernel_rfl)))
def qH.Own (M8 : Nat) (M3 : qH) (M9 : qk) : Prop :=
  ∃ (M6 : qk) (M4 : Option Addr) (M5 : Nat) (M7 : qk), M9 = M6 ++ M7 ∧ xM M6 M8 ((M3.counts_.flatMap (ci .i64)) ++ [.slice M4 M3.symbols_.length M5]) 160 ∧ M3.counts_.length = 16 ∧ xj 3 (ci .i64) 1 M4 M3.symbols_ M5 M7
theorem Uo {H : xT} {F : List qk} {w : World} {R : Ending → World → Prop} {kr : ((Option qH) × Int) → Prop} {kp : Value → Prop} (hG : Gl H) (K : Nat) (M3 : List Int) (M8 : Option Addr) (M9 : Nat) (Nc : jU H [] F (ci .i64) M8 M3) (Nt : M3.length ≤ M9)
    (hS : St w H [] F) (hm : (xN.m K M3).wp kr kp)
    (hret : ∀ (Nw : Option Addr) (NN : Option qH) (Nz : qk) (NO : Int) (w : World), kr (NN, NO) → (K7 qH.Own Nw NN Nz) → St w H [Nz] F → R (.returned (.tuple ⟨[.pointer Nw, .int .i64 NO]⟩)) w) :
    Calls Tryd.prog 91 ⟨[.slice M8 M3.length M9]⟩ w R := by
 refine enter Tryd.func91 rfl Tryd.ntmps91 rfl hS fun a w hS => ?_
 have hM := hm; clear hm
 rw [xN.m] at hM
 refine qm <| sA hS rfl fun hS => sA hS rfl fun hS => qA <| wp_seq <| qm <| sM hS rfl fun hS => qI hS rfl Tryd.call69 (Zo hG K M3 M8 M9 (Nc.app _) Nt (hS.st.part 0 [] (by kernel_rfl)) (qt hM) (fun NV w hM  hst => qB hS.ev hst.appF rfl fun hS => ?_))
 replace hS : Ss _ _ _ H [] F _ _ := hS
 refine sA hS rfl fun hS => qA <| qm <| sM hS rfl fun hS => sB hS rfl fun hS => qA <| qF hS rfl hM (fun NG hM => ?_) (fun NG hM => ?_)
 ·refine wp_seq ?_
  refine zM <| sM hS rfl fun hS => sA hS rfl fun hS => sA hS rfl fun hS => qA <| wp_ret <| zk ?_
  replace hS := hS.nilF
  exact zE (rs := [2, 3]) hS rfl rfl (hret none none ([] : qk) NV _ (q8 hM) (.inl ⟨rfl, rfl, rfl⟩) (hS.st.pick [0] (by kernel_rfl)))
 ·refine wp_skip ?_
  refine qe <| qm <| sO hS (Xw (((List.replicate 16 (0 : Int)).flatMap (ci .i64)) ++ [.slice none 0 0]) [(0, 16), (16, 1)] Tryd.zeroValue160 Tryd.runUnderlying160 (by intro w; simp [Tryd.sizeOf127, Tryd.sizeOf66]) rfl rfl) rfl fun hS => bx (((List.replicate 16 (0 : Int)).flatMap (ci .i64)) ++ [.slice none 0 0]) hS rfl rfl rfl fun w Nd NS NA hS => ?_
  obtain ⟨Nx, ND, hS⟩ := hS.nilV 3 (ci .i64) 1
  refine sA hS rfl fun hS => qA <| qm <| sM hS rfl fun hS => sM hS rfl fun hS => qI hS rfl Tryd.call70 (uU hG K M3 M8 M9 (Nc.app _) Nt (hS.st.part 0 [0, 1] (by kernel_rfl)) (qt hM) (fun Na N2 w hM Np hst => qB hS.ev hst.appF rfl fun hS => ?_))
  replace hS : Ss _ _ _ H [Nx, NS] F _ _ := hS
  refine sM hS rfl fun hS => sO hS (ex rfl rfl) rfl fun hS => sO hS (ex rfl rfl) rfl fun hS => sO hS (yz rfl) rfl fun hS => sO hS (xw rfl Tryd.runUnderlying160 rfl Tryd.sizeOf127 rfl) rfl fun hS => YK (xs := (List.replicate 16 (0 : Int))) (ys := Na) (g := (ci .i64)) (pre := []) (post := [.slice none ([] : List Int).length (0)]) 1 hS rfl rfl NA rfl (by simp) rfl (xg (g := (ci .i64)) (sz := 1) (fun _ => rfl) (List.length_replicate ..)) (xg (g := (ci .i64)) (sz := 1) (fun _ => rfl) Np) (xJ) Tryd.sizeOf127 fun w Ny Nn hS => ?_
  replace Nn : xM Ny Nd ((Na.flatMap (ci .i64)) ++ [.slice none ([] : List Int).length (0)]) 160 := by simpa using Nn
  refine qA <| wp_seq <| qm <| sA hS rfl fun hS => qA <| xQ <| zv (fun Nv a w => ∃ (Nh : Option Addr) (Nj : Nat) (M4 : (List Int)) (Nf : qk) (Ng : qk) (M6 : Int), Ss 50 [] [(0, .slice M8 M3.length M9), (5, qL Nd 0), (6, .int .i64 M6)] H [Ng, Nf] F a w ∧ (xj 3 (ci .i64) 1 Nh M4 Nj Nf) ∧ (xM Ng Nd ((Na.flatMap (ci .i64)) ++ [.slice Nh M4.length Nj]) 160) ∧ (xN.l1 K M3 Na Nv M4 M6).wp kr kp) K ?_ ?_ ?_
  ·exact ⟨none, 0, ([] : List Int), Nx, Ny, (1 : Int), hS.to [1, 0] (by kernel_rfl) ⟨rfl, rfl, rfl, trivial⟩, ND, Nn, hM⟩
  ·intro a w hI; obtain ⟨_, _, _, _, _, _, _, _, _, hM⟩ := hI; exact zu hM
  ·intro Nv a w hI NZ NC
   obtain ⟨Nh, Nj, M4, Nf, Ng, M6, hS, Ns, Nq, hM⟩ := hI
   rw [xN.l1] at hM
   refine wp_seq <| qm <| sM hS rfl fun hS => sB hS rfl fun hS => qA <| qF hS rfl hM (fun NH hM => ?_) (fun NH hM => ?_)
   ·refine wp_skip ?_
    refine qe <| wp_seq <| xQ <| qm <| sM hS rfl fun hS => sO hS (yc rfl Tryd.runUnderlying66) rfl fun hS => sM hS rfl fun hS => qA <| xQ <| zv (fun NL a w => ∃ (Ni : Option Addr) (Nk : Nat) (M5 : (List Int)) (Nl : qk) (Nm : qk) (M7 : Int), Ss 50 [] [(0, .slice M8 M3.length M9), (5, qL Nd 0), (6, .int .i64 M6), (28, .slice M8 M3.length M9), (29, .int .i64 (M3.length : Int)), (30, .int .i64 M7)] H [Nm, Nl] F a w ∧ (xj 3 (ci .i64) 1 Ni M5 Nk Nl) ∧ (xM Nm Nd ((Na.flatMap (ci .i64)) ++ [.slice Ni M5.length Nk]) 160) ∧ (xN.l2 K (xN.l1 K M3 Na Nv) M3 M6 NL M5 M7).wp kr kp) K ?_ ?_ ?_
    ·exact ⟨Nh, Nj, M4, Nf, Ng, (0 : Int), hS.to [0, 1] (by kernel_rfl) ⟨rfl, rfl, rfl, rfl, rfl, rfl, trivial⟩, Ns, Nq, hM⟩
    ·intro a w hI; obtain ⟨_, _, _, _, _, _, _, _, _, hM⟩ := hI; exact zu hM
    ·intro NL a w hI NY Nr
     obtain ⟨Ni, Nk, M5, Nl, Nm, M7, hS, No, Nb, hM⟩ := hI
     rw [xN.l2] at hM
     refine qm <| sB hS rfl fun hS => qA <| wp_seq <| qF hS rfl hM (fun NI hM => ?_) (fun NI hM => ?_)
     ·refine wp_skip ?_
      refine qe <| wp_seq <| xQ <| qm <| sM hS rfl fun hS => ?_
      obtain ⟨Nu, hM⟩ := qK hM
      refine sO hS (yu rfl rfl Tryd.runUnderlying66 Tryd.sizeOf3 Nc.wk (fun _ => rfl) rfl Nu) rfl fun hS => sO hS (yG rfl Nc.wk (fun _ => rfl) Nu rfl Tryd.isAgg3) rfl fun hS => sA hS rfl fun hS => zF (v := Value.int .i64) (x0 := (rd M3 M7)) hS (xA rfl) rfl fun NW a w hz hS => ?_
      have hM := qz hz hM; clear hz
      refine qA <| qm <| sM hS rfl fun hS => sM hS rfl fun hS => sB hS rfl fun hS => qA <| qF hS rfl hM (fun NJ hM => ?_) (fun NJ hM => ?_)
      ·refine zM ?_
       refine sM hS rfl fun hS => sM hS rfl fun hS => sO hS (yz rfl) rfl fun hS => sO hS (xw rfl Tryd.runUnderlying160 rfl Tryd.sizeOf66 rfl) rfl fun hS => sO hS (Ml 0 rfl Nb rfl (by rfl) (xg (g := (ci .i64)) (sz := 1) (fun _ => rfl) Np) Tryd.isAgg66) rfl fun hS => sM hS rfl fun hS => Jv (g := (ci .i64)) ([M7] : List Int) [.int .i64 M7] hS Tryd.runUnderlying66 Tryd.sizeOf3 X.el3 rfl rfl rfl (by simp [Value.cells]) rfl rfl rfl rfl rfl fun w NX N0 N1 NE hS => ?_
       obtain ⟨NK, hM⟩ := qK hM
       refine J5 (ys := ([M7] : List Int)) 2 hS rfl rfl No rfl (NE.rd (i := 0) rfl) Tryd.runUnderlying66 Tryd.runUnderlying66 X.el3 (fun _ => rfl) rfl xJ NK rfl fun NP w NQ NR NT hz NF hS => ?_
       have hM := qz hz hM; clear hz
       refine sO hS (yz rfl) rfl fun hS => sO hS (xw rfl Tryd.runUnderlying160 rfl Tryd.sizeOf66 rfl) rfl fun hS => MX 1 hS rfl rfl Nb rfl rfl (xg (g := (ci .i64)) (sz := 1) (fun _ => rfl) Np) rfl Tryd.sizeOf66 fun w NU NB hS => zo <| zx (qe ?_)
       refine zM <| sB hS rfl fun hS => sM hS rfl fun hS => zo <| qe ?_
       exact Nr _ _ ⟨NQ, NR, NP, NT, NU, (qg (M7 + (1 : Int))), hS.to [1, 2] (by kernel_rfl) ⟨rfl, rfl, rfl, rfl, rfl, rfl, trivial⟩, NF, NB, hM⟩
      ·refine wp_skip ?_
       refine zx (qe ?_)
       refine zM <| sB hS rfl fun hS => sM hS rfl fun hS => zo <| qe ?_
       exact Nr _ _ ⟨Ni, Nk, M5, Nl, Nm, (qg (M7 + (1 : Int))), hS.to [0, 1] (by kernel_rfl) ⟨rfl, rfl, rfl, rfl, rfl, rfl, trivial⟩, No, Nb, hM⟩
     ·refine wp_exit ?_
      refine qE (qE (zd (zx (qe ?_))))
      refine zM <| sM hS rfl fun hS => sB hS rfl fun hS => zF (v := Value.int .i64) (x0 := (qg (M6 + (1 : Int)))) hS (xA rfl) rfl fun NM a w hz hS => ?_
      have hM := qz hz hM; clear hz
      refine zo <| qe ?_
      exact NC _ _ ⟨Ni, Nk, M5, Nl, Nm, NM, hS.to [0, 1] (by kernel_rfl) ⟨rfl, rfl, rfl, trivial⟩, No, Nb, hM⟩
   ·refine wp_exit ?_
    refine qE (qE (zd (qe ?_)))
    refine qm <| sM hS rfl fun hS => sA hS rfl fun hS => sA hS rfl fun hS => qA <| wp_ret ?_
    replace hS := hS.front [0, 1] (by kernel_rfl)
    replace hS := hS.joinF
    exact zE (rs := [2, 3]) hS rfl rfl (hret (some ⟨Nd, 0, none⟩) (some (qH.mk Na M4)) (Ng ++ Nf) (0 : Int) _ (q8 hM) (.inr ⟨_, _, rfl, rfl, Ng, Nh, Nj, Nf, rfl, Nq, Np, Ns⟩) (hS.st.pick [0] (by kernel_rfl)))
theorem y8 {H : xT} {F : List qk} {w : World} {R : Ending → World → Prop} {kr : (Option qH) → Prop} {kp : Value → Prop} (hG : Gl H) (K : Nat) (M3 : List Int) (M4 : Option Addr) (M5 : Nat) (Na : jU H [] F (ci .i64) M4 M3) (M9 : M3.length ≤ M5)
    (hS : St w H [] F) (hm : (yj.m K M3).wp kr kp)
    (hret : ∀ (M7 : Option Addr) (Nb : Option qH) (M8 : qk) (w : World), kr Nb → (K7 qH.Own M7 Nb M8) → St w H [M8] F → R (.returned (.pointer M7)) w)
    (hpan : ∀ v w, kp v → St w H [] F → R (.panicked [⟨v, false, false⟩]) w) :
    Calls Tryd.prog 83 ⟨[.slice M4 M3.length M5]⟩ w R := by
 refine enter Tryd.func83 rfl Tryd.ntmps83 rfl hS fun a w hS => ?_
 have hM := hm; clear hm
 rw [yj.m] at hM
 refine qm <| sA hS rfl fun hS => qA <| qm <| sM hS rfl fun hS => qI hS rfl Tryd.call91 (Uo hG K M3 M4 M5 (Na.app _) M9 (hS.st.part 0 [] (by kernel_rfl)) (qt hM) (fun Nc Nf M6 Ng w hM Nd hst => qB hS.ev hst.appF rfl fun hS => ?_))
 replace hS : Ss _ _ _ H [M6] F _ _ := hS
 refine sM hS rfl fun hS => sO hS (ex rfl rfl) rfl fun hS => sO hS (ex rfl rfl) rfl fun hS => sA hS rfl fun hS => sA hS rfl fun hS => qA <| qm <| sM hS rfl fun hS => sB hS rfl fun hS => qI hS rfl Tryd.call65 (xc hG K (Ng != (0 : Int)) (3 : Int) (hS.st.part 0 [0] (by kernel_rfl)) (qt hM) (fun  w hM  hst => qB hS.ev hst.appF rfl fun hS => ?_) (fun v w hk hst => xo (qD (⟨hS.ev.defs, hpan _ _ hk hst.appF.frame⟩))))
 replace hS : Ss _ _ _ H [M6] F _ _ := hS
 refine qA <| qm <| sM hS rfl fun hS => sA hS rfl fun hS => qA <| wp_ret ?_
 exact zE (rs := [2]) hS rfl rfl (hret Nc Nf M6 _ (q8 hM) Nd (hS.st.pick [0] (by kernel_rfl)))
theorem Xt {H : xT} {F : List qk} {w : World} {R : Ending → World → Prop} {kr : ((Option qH) × (Option qH)) → Prop} {kp : Value → Prop} (hG : Gl H) (K : Nat)
    (hS : St w H [] F) (hm : (zt.m K).wp kr kp)
    (hret : ∀ (NH : Option Addr) (N5 : Option qH) (NO : qk) (NI : Option Addr) (N6 : Option qH) (NP : qk) (w : World), kr (N5, N6) → (K7 qH.Own NH N5 NO) → (K7 qH.Own NI N6 NP) → St w H [NO, NP] F → R (.returned (.tuple ⟨[.pointer NH, .pointer NI]⟩)) w)
    (hpan : ∀ v w, kp v → St w H [] F → R (.panicked [⟨v, false, false⟩]) w) :
    Calls Tryd.prog 63 ⟨[]⟩ w R := by
 refine enter Tryd.func63 rfl Tryd.ntmps63 rfl hS fun a w hS => ?_
 have hM := hm; clear hm
 rw [zt.m] at hM
 refine qm <| sA hS rfl fun hS => sA hS rfl fun hS => qA <| qm <| QI ((List.replicate 288 (0 : Int)).flatMap (ci .i64)) hS Tryd.zeroValue145 (by kernel_rfl) rfl fun w M4 N7 NQ hS => qA <| zl (fun a w => ∃ (M3 : (List Int)) (Nb : qk), Ss 38 [] [(2, qL M4 0)] H [Nb] F a w ∧ (M3.length = 288) ∧ (xM Nb M4 (M3.flatMap (ci .i64)) 145) ∧ (zt.j3 K M3).wp kr kp) (fun Pf NU => ?_) ?_
 ·refine wp_seq ?_
  refine zM <| sM hS rfl fun hS => qA <| xQ <| zv (fun NG a w => ∃ (M8 : (List Int)) (Nu : qk) (M5 : Int), Ss 38 [] [(2, qL M4 0), (6, .int .i64 M5)] H [Nu] F a w ∧ (M8.length = 288) ∧ (xM Nu M4 (M8.flatMap (ci .i64)) 145) ∧ (zt.l1 K NG M8 M5).wp kr kp) K ?_ ?_ ?_
  ·exact ⟨(List.replicate 288 (0 : Int)), N7, (0 : Int), hS.to [0] (by kernel_rfl) ⟨rfl, rfl, trivial⟩, (List.length_replicate ..), NQ, hM⟩
  ·intro a w hI; obtain ⟨_, _, _, _, _, _, hM⟩ := hI; exact zu hM
  ·intro NG a w hI Pe NC
   obtain ⟨M8, Nu, M5, hS, Nl, Ny, hM⟩ := hI
   rw [zt.l1] at hM
   refine qm <| sB hS rfl fun hS => qA <| wp_seq <| qF hS rfl hM (fun NX hM => ?_) (fun NX hM => ?_)
   ·refine wp_skip ?_
    refine qe <| wp_seq <| xQ <| qm <| sM hS rfl fun hS => sA hS rfl fun hS => qA <| qm <| sM hS rfl fun hS => ?_
    obtain ⟨M7, hM⟩ := qK hM
    refine sO hS (Ub rfl rfl Tryd.runUnderlying145 Tryd.sizeOf3 M7) rfl fun hS => Gx (xs := M8) (g := (ci .i64)) (pre := []) (post := []) 0 ((8 : Int)) hS rfl rfl Ny rfl (by simp) rfl (fun _ => rfl) (jc Nl M7) rfl Tryd.sizeOf3 (xJ _) fun Nd w NJ hz Nc hS => ?_
    have Nm : Nd.length = 288 := by rw [hz, List.length_set]; exact Nl
    have hM := qz hz hM; clear hz
    replace Nc : xM NJ M4 (Nd.flatMap (ci .i64)) 145 := by simpa using Nc
    refine qA <| zl (fun a w => ∃ (M9 : (List Int)) (Nv : qk), Ss 38 [] [(2, qL M4 0), (3, .int .i64 M5), (6, .int .i64 M5)] H [Nv] F a w ∧ (M9.length = 288) ∧ (xM Nv M4 (M9.flatMap (ci .i64)) 145) ∧ (zt.j2 K (zt.l1 K NG) M5 M9).wp kr kp) (fun Pd NB => ?_) ?_
    ·refine wp_seq ?_
     refine zM <| sM hS rfl fun hS => sB hS rfl fun hS => sM hS rfl fun hS => y4 2 true 13 (b := (decide (M5 ≥ (144 : Int)))) (r := (decide (M5 < (256 : Int)))) hS rfl rfl rfl rfl rfl rfl rfl (fun hb a w hS K hK => ?_) rfl fun a w hS => ?_
     ·refine z2 hS rfl rfl rfl hb (mv rfl) rfl fun a w hS => ?_
      refine z2 hS rfl rfl rfl hb (jv rfl rfl rfl) rfl fun a w hS => ?_
      exact zo (hK _ _ (hS.up 2 rfl rfl))
     refine qA <| qF hS rfl hM (fun NY hM => ?_) (fun NY hM => ?_)
     ·refine zM ?_
      refine sM hS rfl fun hS => sO hS (Ub rfl rfl Tryd.runUnderlying145 Tryd.sizeOf3 M7) rfl fun hS => Gx (xs := Nd) (g := (ci .i64)) (pre := []) (post := []) 0 ((9 : Int)) hS rfl rfl Nc rfl (by simp) rfl (fun _ => rfl) (jc Nm M7) rfl Tryd.sizeOf3 (xJ _) fun Nq w NK hz Ni hS => ?_
      have N1 : Nq.length = 288 := by rw [hz, List.length_set]; exact Nm
      have hM := qz hz hM; clear hz
      replace Ni : xM NK M4 (Nq.flatMap (ci .i64)) 145 := by simpa using Ni
      refine zo <| qe ?_
      exact NB _ _ ⟨Nq, NK, hS.to [0] (by kernel_rfl) ⟨rfl, rfl, rfl, trivial⟩, N1, Ni, hM⟩
     ·refine wp_skip ?_
      refine qe ?_
      exact NB _ _ ⟨Nd, NJ, hS.to [0] (by kernel_rfl) ⟨rfl, rfl, rfl, trivial⟩, Nm, Nc, hM⟩
    ·intro a w hI
     obtain ⟨M9, Nv, hS, Nn, Nz, hM⟩ := hI
     rw [zt.j2] at hM
     refine qm <| sM hS rfl fun hS => sB hS rfl fun hS => sM hS rfl fun hS => y4 2 true 21 (b := (decide (M5 ≥ (256 : Int)))) (r := (decide (M5 < (280 : Int)))) hS rfl rfl rfl rfl rfl rfl rfl (fun hb a w hS K hK => ?_) rfl fun a w hS => ?_
     ·refine z2 hS rfl rfl rfl hb (mv rfl) rfl fun a w hS => ?_
      refine z2 hS rfl rfl rfl hb (jv rfl rfl rfl) rfl fun a w hS => ?_
      exact zo (hK _ _ (hS.up 2 rfl rfl))
     refine qA <| qF hS rfl hM (fun NZ hM => ?_) (fun NZ hM => ?_)
     ·refine zM ?_
      refine sM hS rfl fun hS => sO hS (Ub rfl rfl Tryd.runUnderlying145 Tryd.sizeOf3 M7) rfl fun hS => Gx (xs := M9) (g := (ci .i64)) (pre := []) (post := []) 0 ((7 : Int)) hS rfl rfl Nz rfl (by simp) rfl (fun _ => rfl) (jc Nn M7) rfl Tryd.sizeOf3 (xJ _) fun Nr w NL hz Nj hS => ?_
      have N2 : Nr.length = 288 := by rw [hz, List.length_set]; exact Nn
      have hM := qz hz hM; clear hz
      replace Nj : xM NL M4 (Nr.flatMap (ci .i64)) 145 := by simpa using Nj
      refine zo <| zx (qe ?_)
      refine zM <| sB hS rfl fun hS => sM hS rfl fun hS => zo <| qe ?_
      exact NC _ _ ⟨Nr, NL, (qg (M5 + (1 : Int))), hS.to [0] (by kernel_rfl) ⟨rfl, rfl, trivial⟩, N2, Nj, hM⟩
     ·refine wp_skip ?_
      refine zx (qe ?_)
      refine zM <| sB hS rfl fun hS => sM hS rfl fun hS => zo <| qe ?_
      exact NC _ _ ⟨M9, Nv, (qg (M5 + (1 : Int))), hS.to [0] (by kernel_rfl) ⟨rfl, rfl, trivial⟩, Nn, Nz, hM⟩
   ·refine wp_exit ?_
    refine qE (qE (zd (qe ?_)))
    exact NU _ _ ⟨M8, Nu, hS.to [0] (by kernel_rfl) ⟨rfl, trivial⟩, Nl, Ny, hM⟩
 ·intro a w hI
  obtain ⟨M3, Nb, hS, NE, NR, hM⟩ := hI
  rw [zt.j3] at hM
  refine qm <| QI ((List.replicate 32 (0 : Int)).flatMap (ci .i64)) hS Tryd.zeroValue146 rfl rfl fun w M6 N8 NS hS => qA <| zl (fun a w => ∃ (Na : (List Int)) (Nh : qk), Ss 38 [] [(2, qL M4 0), (4, qL M6 0)] H [Nb, Nh] F a w ∧ (Na.length = 32) ∧ (xM Nh M6 (Na.flatMap (ci .i64)) 146) ∧ (zt.j5 K M3 Na).wp kr kp) (fun Ph NW => ?_) ?_
  ·refine wp_seq ?_
   refine zM <| sM hS rfl fun hS => qA <| xQ <| zv (fun N4 a w => ∃ (Nf : (List Int)) (Nw : qk) (Nx : Int), Ss 38 [] [(2, qL M4 0), (4, qL M6 0), (28, .int .i64 Nx)] H [Nb, Nw] F a w ∧ (Nf.length = 32) ∧ (xM Nw M6 (Nf.flatMap (ci .i64)) 146) ∧ (zt.l4 K M3 N4 Nf Nx).wp kr kp) K ?_ ?_ ?_
   ·exact ⟨(List.replicate 32 (0 : Int)), N8, (0 : Int), hS.to [1, 0] (by kernel_rfl) ⟨rfl, rfl, rfl, trivial⟩, (List.length_replicate ..), NS, hM⟩
   ·intro a w hI; obtain ⟨_, _, _, _, _, _, hM⟩ := hI; exact zu hM
   ·intro N4 a w hI Pg NV
    obtain ⟨Nf, Nw, Nx, hS, No, NA, hM⟩ := hI
    rw [zt.l4] at hM
    refine qm <| sB hS rfl fun hS => qA <| wp_seq <| qF hS rfl hM (fun N0 hM => ?_) (fun N0 hM => ?_)
    ·refine wp_skip ?_
     refine qe <| wp_seq <| xQ <| qm <| sM hS rfl fun hS => sA hS rfl fun hS => qA <| zM <| sM hS rfl fun hS => ?_
     obtain ⟨ND, hM⟩ := qK hM
     refine sO hS (Ub rfl rfl Tryd.runUnderlying146 Tryd.sizeOf3 ND) rfl fun hS => Gx (xs := Nf) (g := (ci .i64)) (pre := []) (post := []) 1 ((5 : Int)) hS rfl rfl NA rfl (by simp) rfl (fun _ => rfl) (jc No ND) rfl Tryd.sizeOf3 (xJ _) fun Ns w NM hz Nk hS => ?_
     have N3 : Ns.length = 32 := by rw [hz, List.length_set]; exact No
     have hM := qz hz hM; clear hz
     replace Nk : xM NM M6 (Ns.flatMap (ci .i64)) 146 := by simpa using Nk
     refine zo <| zx (qe ?_)
     refine zM <| sB hS rfl fun hS => sM hS rfl fun hS => zo <| qe ?_
     exact NV _ _ ⟨Ns, NM, (qg (Nx + (1 : Int))), hS.to [0, 1] (by kernel_rfl) ⟨rfl, rfl, rfl, trivial⟩, N3, Nk, hM⟩
    ·refine wp_exit ?_
     refine qE (qE (zd (qe ?_)))
     exact NW _ _ ⟨Nf, Nw, hS.to [0, 1] (by kernel_rfl) ⟨rfl, rfl, trivial⟩, No, NA, hM⟩
  ·intro a w hI
   obtain ⟨Na, Nh, hS, Np, NT, hM⟩ := hI
   rw [zt.j5] at hM
   refine wp_seq <| q9 (vals := [some (.slice (some ⟨M4, 0, none⟩) M3.length (288)), none, some (.slice (some ⟨M6, 0, none⟩) Na.length (32)), none, none, none]) hS xF rfl ?_
   intro l w ho hcl hA hst
   refine jf hA hst ho hcl xu xG 1 [0, 2] rfl rfl rfl rfl rfl (by exact ⟨nQ rfl (by exact qX (L8 rfl Tryd.runUnderlying145 Tryd.sizeOf3 NE rfl) rfl), nQ rfl (by exact qX (L8 rfl Tryd.runUnderlying146 Tryd.sizeOf3 Np rfl) rfl), trivial⟩) fun D l a w ho hcl hav hpre hm hE hk hA hst => ?_
   have hS := (Ss.mk hE hst).env2 (e' := [(34, .slice (some ⟨M4, 0, none⟩) M3.length (288))]) ⟨rfl, trivial⟩
   refine qR rfl <| qI hS rfl Tryd.call83 (y8 hG K M3 (some ⟨M4, 0, none⟩) (288) (NR.rdF (i := 0) rfl rfl) (Nat.le_of_eq NE) (hS.st.part 0 [0, 1] (by kernel_rfl)) (qt hM) (fun Ng Pb NF w hM N9 hst => qB hS.ev hst.appF rfl fun hS => ?_) (fun v w hk hst => xo (qD (qD (⟨hS.ev.defs, hpan _ _ hk hst.appF.frame⟩)))))
   replace hS : Ss _ _ _ H [NF, Nb, Nh] F _ _ := hS
   refine qA ?_
   replace hst := hS.st
   obtain ⟨hcl, hmust, hav2, hA⟩ := dn (vals' := [some (.slice (some ⟨M4, 0, none⟩) M3.length (288)), some (.pointer Ng), some (.slice (some ⟨M6, 0, none⟩) Na.length (32)), none, none, none]) 1 [(0, 1)] hA hcl hav hm hpre hk rfl rfl rfl rfl rfl rfl rfl
   clear hm hav
   refine jf hA hst ho hcl hav2 hmust 3 [2] rfl rfl rfl rfl rfl (by exact ⟨nQ rfl (by exact qX (L8 rfl Tryd.runUnderlying146 Tryd.sizeOf3 Np rfl) rfl), trivial⟩) fun D l a w ho hcl hav hpre hm hE hk hA hst => ?_
   have hS := (Ss.mk hE hst).env2 (e' := [(36, .slice (some ⟨M6, 0, none⟩) Na.length (32))]) ⟨rfl, trivial⟩
   refine qR rfl <| qI hS rfl Tryd.call83 (y8 hG K Na (some ⟨M6, 0, none⟩) (32) (NT.rdF (i := 2) rfl rfl) (Nat.le_of_eq Np) (hS.st.part 0 [0, 1, 2] (by kernel_rfl)) (qt hM) (fun Nt Pc NN w hM Pa hst => qB hS.ev hst.appF rfl fun hS => ?_) (fun v w hk hst => xo (qD (qD (⟨hS.ev.defs, hpan _ _ hk hst.appF.frame⟩)))))
   replace hS : Ss _ _ _ H [NN, NF, Nb, Nh] F _ _ := hS
   refine qA ?_
   replace hst := hS.st
   obtain ⟨hcl, hmust, hav2, hA⟩ := dn (vals' := [some (.slice (some ⟨M4, 0, none⟩) M3.length (288)), some (.pointer Ng), some (.slice (some ⟨M6, 0, none⟩) Na.length (32)), some (.pointer Nt), some (.pointer Ng), some (.pointer Nt)]) 3 [(1, 3), (2, 3), (0, 1)] hA hcl hav hm hpre hk rfl rfl rfl rfl rfl rfl rfl
   clear hm hav
   refine yk hA hst ho hcl hmust [4, 5] rfl rfl rfl (by exact ⟨nA rfl, nA rfl, trivial⟩) fun a w hS => ?_
   replace hS := hS.env2 (e' := [(0, .pointer Ng), (1, .pointer Nt)]) ⟨rfl, rfl, trivial⟩
   refine qe <| wp_ret ?_
   exact zE (rs := [0, 1]) hS rfl rfl (hret Ng Pb NF Nt Pc NN _ (q8 hM) N9 Pa (hS.st.pick [1, 0] (by kernel_rfl)))
theorem Zp {H : xT} {F : List qk} {w : World} {R : Ending → World → Prop} {kr : (Int × Int × Int) → Prop} {kp : Value → Prop} (hG : Gl H) (K : Nat) (M8 : qH) (M3 : qG) (Nw : Nat) (Nf : qk) (Nv : Option Addr) (Nx : Nat) (Ng : qk) (M9 : Nat) (Ny : qk) (Nm : xM Nf Nw ((M8.counts_.flatMap (ci .i64)) ++ [.slice Nv M8.symbols_.length Nx]) 160) (Nn : M8.counts_.length = 16) (Nr : xj 3 (ci .i64) 1 Nv M8.symbols_ Nx Ng) (No : xM Ny M9 ([.int .i64 M3.place_.at_, xf M3.text_]) 118)
    (hS : St w H [Nf, Ng, Ny] F) (hm : (z9.m K M8 M3).wp kr kp)
    (hret : ∀ (NQ : Int) (NR : Int) (Nj : Int) (NE : qk) (w : World), kr (NQ, NR, Nj) → (xM NE M9 ([.int .i64 Nj, xf M3.text_]) 118) → St w H [NE, Nf, Ng] F → R (.returned (.tuple ⟨[.int .i64 NQ, .int .i64 NR]⟩)) w) :
    Calls Tryd.prog 90 ⟨[qL Nw 0, qL M9 0]⟩ w R := by
 refine enter Tryd.func90 rfl Tryd.ntmps90 rfl hS fun a w hS => ?_
 have hM := hm; clear hm
 rw [z9.m] at hM
 refine qm <| sA hS rfl fun hS => sA hS rfl fun hS => qA <| wp_seq <| qm <| sM hS rfl fun hS => sO hS (XV rfl rfl Tryd.runUnderlying120) rfl fun hS => sM hS rfl fun hS => z2 hS rfl rfl rfl rfl (mv rfl) rfl fun a w hS => z2 hS rfl rfl rfl rfl (XV rfl rfl Tryd.runUnderlying94) rfl fun a w hS => sO hS (pk rfl rfl rfl) rfl fun hS => qA <| XH hS rfl <| wp_skip <| qe <| qm <| sM hS rfl fun hS => sO hS (yz rfl) rfl fun hS => sO hS (uX 2 rfl No rfl ([.int .i64 M3.place_.at_, xf M3.text_]) rfl rfl Tryd.isAgg118 Tryd.sizeOf118) rfl fun hS => QI ([.int .i64 (0 : Int), xf ([] : List UInt8)]) hS Tryd.zeroValue118 rfl rfl fun w ND NZ NF hS => QX 0 ([.int .i64 M3.place_.at_, xf M3.text_]) ([.int .i64 M3.place_.at_, xf M3.text_]) hS rfl rfl NF rfl rfl Tryd.sizeOf118 (by simp [Value.oneCell']) (Nat.le_of_ble_eq_true rfl) rfl fun w Nz Np hS => qA <| qm <| sA hS rfl fun hS => sA hS rfl fun hS => sA hS rfl fun hS => qA <| zl (fun a w => ∃ (Nc : Int) (NB : qk), Ss 81 [] [(1, qL M9 0), (6, qL ND 0)] H [NB, Nf, Ng, Nz] F a w ∧ (xM NB M9 ([.int .i64 Nc, xf M3.text_]) 118) ∧ (z9.j2 K M3 Nc).wp kr kp) (fun NY NK => ?_) ?_
 ·refine wp_seq ?_
  refine zM <| sA hS rfl fun hS => qA <| xQ <| zv (fun NO a w => ∃ (M7 : Int) (Nk : qk) (M6 : Int) (M5 : Int) (M4 : Int) (Nb : Int), Ss 81 [] [(0, qL Nw 0), (1, qL M9 0), (6, qL ND 0), (7, .int .i64 M6), (8, .int .i64 M5), (9, .int .i64 M4), (10, .int .i64 Nb)] H [Nk, Nf, Ng, Nz] F a w ∧ (xM Nk M9 ([.int .i64 M7, xf M3.text_]) 118) ∧ (z9.l1 K M8 M3 NO M7 M6 M5 M4 Nb).wp kr kp) K ?_ ?_ ?_
  ·exact ⟨M3.place_.at_, Ny, (0 : Int), (0 : Int), (0 : Int), (1 : Int), hS.to [3, 1, 2, 0] (by kernel_rfl) ⟨rfl, rfl, rfl, rfl, rfl, rfl, rfl, trivial⟩, No, hM⟩
  ·intro a w hI; obtain ⟨_, _, _, _, _, _, _, _, hM⟩ := hI; exact zu hM
  ·intro NO a w hI NX NJ
   obtain ⟨M7, Nk, M6, M5, M4, Nb, hS, Nq, hM⟩ := hI
   rw [z9.l1] at hM
   refine wp_seq <| qm <| sM hS rfl fun hS => sM hS rfl fun hS => sO hS (yz rfl) rfl fun hS => sO hS (xw rfl Tryd.runUnderlying160 rfl Tryd.sizeOf66 rfl) rfl fun hS => sO hS (Ml 1 rfl Nm rfl (by rfl) (xg (g := (ci .i64)) (sz := 1) (fun _ => rfl) Nn) Tryd.isAgg66) rfl fun hS => sO hS (yc rfl Tryd.runUnderlying66) rfl fun hS => sB hS rfl fun hS => qA <| qF hS rfl hM (fun NL hM => ?_) (fun NL hM => ?_)
   ·refine wp_skip ?_
    refine qe <| wp_seq <| xQ <| qm <| sM hS rfl fun hS => qI hS rfl Tryd.call78 (vL hG K (qG.mk (qr.mk M7) M3.text_) (1 : Int) M9 Nk Nq (hS.st.part 1 [0, 1, 2, 3] (by kernel_rfl)) (qt hM) (fun NV NW Ni NA w hM NC hst => qB hS.ev hst.appF rfl fun hS => ?_))
    replace hS : Ss _ _ _ H [NA, Nf, Ng, Nz] F _ _ := hS
    refine sM hS rfl fun hS => sO hS (ex rfl rfl) rfl fun hS => sO hS (ex rfl rfl) rfl fun hS => sA hS rfl fun hS => sA hS rfl fun hS => qA <| wp_seq <| qm <| sM hS rfl fun hS => sB hS rfl fun hS => qA <| qF hS rfl hM (fun NM hM => ?_) (fun NM hM => ?_)
    ·refine wp_seq ?_
     refine zM <| sM hS rfl fun hS => sO hS (uX 3 rfl Np rfl ([.int .i64 M3.place_.at_, xf M3.text_]) rfl rfl Tryd.isAgg118 Tryd.sizeOf118) rfl fun hS => sO hS (yz rfl) rfl fun hS => QX 0 ([.int .i64 M3.place_.at_, xf M3.text_]) ([.int .i64 M3.place_.at_, xf M3.text_]) hS rfl rfl NC rfl rfl Tryd.sizeOf118 (by simp [Value.oneCell']) (Nat.le_of_ble_eq_true rfl) rfl fun w NS NG hS => qA <| qm <| sM hS rfl fun hS => sA hS rfl fun hS => sA hS rfl fun hS => qA <| wp_ret <| zk (x6 (zk (zk (x6 (zk ?_)))))
     exact zE (rs := [4, 5]) hS rfl rfl (hret (0 : Int) NW M3.place_.at_ NS _ (q8 hM) NG (hS.st.pick [0, 1, 2] (by kernel_rfl)))
    ·refine wp_skip ?_
     refine qe <| qm <| sM hS rfl fun hS => sO hS (shl rfl rfl rfl) rfl fun hS => sM hS rfl fun hS => sO hS (ux rfl Tryd.runUnderlying25 Tryd.runUnderlying3) rfl fun hS => sB hS rfl fun hS => zF (v := Value.int .i64) (x0 := (QS .i64 (z8 .i64 M6 (1 : Int)) (wr .i64 NV))) hS (xA rfl) rfl fun Nd a w hz hS => ?_
     have hM := qz hz hM; clear hz
     refine qA <| qm <| sM hS rfl fun hS => sO hS (shl rfl rfl rfl) rfl fun hS => zF (v := Value.int .i64) (x0 := (z8 .i64 M5 (1 : Int))) hS (xA rfl) rfl fun Na a w hz hS => ?_
     have hM := qz hz hM; clear hz
     refine qA <| qm <| sM hS rfl fun hS => sM hS rfl fun hS => sO hS (yz rfl) rfl fun hS => sO hS (xw rfl Tryd.runUnderlying160 rfl Tryd.sizeOf127 rfl) rfl fun hS => ?_
     obtain ⟨Ns, hM⟩ := qK hM
     refine sO hS (Ub rfl rfl Tryd.runUnderlying127 Tryd.sizeOf3 Ns) rfl fun hS => sO hS (LO (xs := M8.counts_) (g := (ci .i64)) (pre := []) (post := [.slice Nv M8.symbols_.length Nx]) 1 rfl Nm rfl (by simp) rfl (fun _ => rfl) (jc Nn Ns) rfl Tryd.isAgg3) rfl fun hS => zF (v := Value.int .i64) (x0 := (rd M8.counts_ Nb)) hS (xA rfl) rfl fun Nu a w hz hS => ?_
     have hM := qz hz hM; clear hz
     refine qA <| wp_seq <| qm <| sM hS rfl fun hS => sM hS rfl fun hS => sB hS rfl fun hS => sM hS rfl fun hS => sB hS rfl fun hS => qA <| qF hS rfl hM (fun NN hM => ?_) (fun NN hM => ?_)
     ·refine wp_seq ?_
      refine zM <| sM hS rfl fun hS => sO hS (yz rfl) rfl fun hS => sO hS (xw rfl Tryd.runUnderlying160 rfl Tryd.sizeOf66 rfl) rfl fun hS => sO hS (Ml 1 rfl Nm rfl (by rfl) (xg (g := (ci .i64)) (sz := 1) (fun _ => rfl) Nn) Tryd.isAgg66) rfl fun hS => sM hS rfl fun hS => sM hS rfl fun hS => sB hS rfl fun hS => sM hS rfl fun hS => sB hS rfl fun hS => ?_
      obtain ⟨Nt, hM⟩ := qK hM
      refine sO hS (yu rfl rfl Tryd.runUnderlying66 Tryd.sizeOf3 (Nr.rd (i := 2) rfl) (fun _ => rfl) rfl Nt) rfl fun hS => sO hS (yG rfl (Nr.rd (i := 2) rfl) (fun _ => rfl) Nt rfl Tryd.isAgg3) rfl fun hS => zF (v := Value.int .i64) (x0 := (rd M8.symbols_ (qg ((qg (M4 + Nd)) - Na)))) hS (xA rfl) rfl fun NU a w hz hS => ?_
      have hM := qz hz hM; clear hz
      refine sA hS rfl fun hS => qA <| wp_ret <| zk (x6 (zk (zk (x6 (zk ?_)))))
      exact zE (rs := [4, 5]) hS rfl rfl (hret NU (0 : Int) Ni NA _ (q8 hM) NC (hS.st.pick [0, 1, 2] (by kernel_rfl)))
     ·refine wp_skip ?_
      refine qe <| qm <| sM hS rfl fun hS => sM hS rfl fun hS => sB hS rfl fun hS => zF (v := Value.int .i64) (x0 := (qg (Na + Nu))) hS (xA rfl) rfl fun Nl a w hz hS => ?_
      have hM := qz hz hM; clear hz
      refine qA <| zM <| sM hS rfl fun hS => sM hS rfl fun hS => sB hS rfl fun hS => zF (v := Value.int .i64) (x0 := (qg (M4 + Nu))) hS (xA rfl) rfl fun Nh a w hz hS => ?_
      have hM := qz hz hM; clear hz
      refine zo <| zx (qe ?_)
      refine zM <| sM hS rfl fun hS => sB hS rfl fun hS => zF (v := Value.int .i64) (x0 := (qg (Nb + (1 : Int)))) hS (xA rfl) rfl fun NP a w hz hS => ?_
      have hM := qz hz hM; clear hz
      refine zo <| qe ?_
      exact NJ _ _ ⟨Ni, NA, Nd, Nl, Nh, NP, hS.to [0, 1, 2, 3] (by kernel_rfl) ⟨rfl, rfl, rfl, rfl, rfl, rfl, rfl, trivial⟩, NC, hM⟩
   ·refine wp_exit ?_
    refine qE (qE (zd (qe ?_)))
    exact NK _ _ ⟨M7, Nk, hS.to [0, 1, 2, 3] (by kernel_rfl) ⟨rfl, rfl, trivial⟩, Nq, hM⟩
 ·intro a w hI
  obtain ⟨Nc, NB, hS, NH, hM⟩ := hI
  rw [z9.j2] at hM
  refine qm <| sM hS rfl fun hS => sO hS (uX 3 rfl Np rfl ([.int .i64 M3.place_.at_, xf M3.text_]) rfl rfl Tryd.isAgg118 Tryd.sizeOf118) rfl fun hS => sO hS (yz rfl) rfl fun hS => QX 0 ([.int .i64 M3.place_.at_, xf M3.text_]) ([.int .i64 M3.place_.at_, xf M3.text_]) hS rfl rfl NH rfl rfl Tryd.sizeOf118 (by simp [Value.oneCell']) (Nat.le_of_ble_eq_true rfl) rfl fun w NT NI hS => qA <| qm <| sA hS rfl fun hS => sA hS rfl fun hS => qA <| wp_ret ?_
  exact zE (rs := [4, 5]) hS rfl rfl (hret (0 : Int) (3 : Int) M3.place_.at_ NT _ (q8 hM) NI (hS.st.pick [0, 1, 2] (by kernel_rfl)))
theorem yQ {H : xT} {F : List qk} {w : World} {R : Ending → World → Prop} {kr : (Int × Int) → Prop} {kp : Value → Prop} (hG : Gl H) (K : Nat) (M3 : qx) (M6 : qH) (Nj : Nat) (M8 : qk) (Na : Nat) (Ng : qk) (Ni : Option Addr) (Nk : Nat) (M9 : qk) (Nd : Nat) (M4 : qk) (Nb : Option Addr) (Nf : Nat) (M5 : qk) (Nm : xM M8 Nj ([qL Na 0, .slice Ni M3.out_.length Nk, .int .i64 M3.limit_]) 97) (Nn : xM Ng Na ([.int .i64 M3.Reader_.place_.at_, xf M3.Reader_.text_]) 118) (Nv : xj 5 (ci .u8) 1 Ni M3.out_ Nk M9) (No : xM M4 Nd ((M6.counts_.flatMap (ci .i64)) ++ [.slice Nb M6.symbols_.length Nf]) 160) (Nq : M6.counts_.length = 16) (Np : xj 3 (ci .i64) 1 Nb M6.symbols_ Nf M5)
    (hS : St w H [M8, Ng, M9, M4, M5] F) (hm : (xL.m K M3 M6).wp kr kp)
    (hret : ∀ (Nr : Int) (M7 : Int) (Nl : qk) (w : World), kr (Nr, M7) → (xM Nl Na ([.int .i64 M7, xf M3.Reader_.text_]) 118) → St w H [M4, M5, M8, Nl, M9] F → R (.returned (.int .i64 Nr)) w)
    (hpan : ∀ v w, kp v → St w H [] F → R (.panicked [⟨v, false, false⟩]) w) :
    Calls Tryd.prog 81 ⟨[qL Nj 0, qL Nd 0]⟩ w R := by
 refine enter Tryd.func81 rfl Tryd.ntmps81 rfl hS fun a w hS => ?_
 have hM := hm; clear hm
 rw [xL.m] at hM
 refine qm <| sA hS rfl fun hS => qA <| qm <| sM hS rfl fun hS => sM hS rfl fun hS => sO hS (yz rfl) rfl fun hS => sO hS (xw rfl Tryd.runUnderlying97 rfl Tryd.sizeOf94 rfl) rfl fun hS => sO hS (x5 0 rfl Nm rfl rfl Tryd.isAgg94) rfl fun hS => qI hS rfl Tryd.call90 (Zp hG K M6 M3.Reader_ Nd M4 Nb Nf M5 Na Ng No Nq Np Nn (hS.st.part 3 [3, 4, 1, 0, 2] (by kernel_rfl)) (qt hM) (fun Nt Nu Nc Nh w hM Ns hst => qB hS.ev hst.appF rfl fun hS => ?_))
 replace hS : Ss _ _ _ H [Nh, M4, M5, M8, M9] F _ _ := hS
 refine sM hS rfl fun hS => sO hS (ex rfl rfl) rfl fun hS => sO hS (ex rfl rfl) rfl fun hS => sA hS rfl fun hS => sA hS rfl fun hS => qA <| qm <| sM hS rfl fun hS => qI hS rfl Tryd.call79 (jO hG K Nu (hS.st.part 0 [0, 1, 2, 3, 4] (by kernel_rfl)) (qt hM) (fun  w hM  hst => qB hS.ev hst.appF rfl fun hS => ?_) (fun v w hk hst => xo (qD (⟨hS.ev.defs, hpan _ _ hk hst.appF.frame⟩))))
 replace hS : Ss _ _ _ H [Nh, M4, M5, M8, M9] F _ _ := hS
 refine qA <| qm <| sM hS rfl fun hS => sA hS rfl fun hS => qA <| wp_ret ?_
 exact zE (rs := [4]) hS rfl rfl (hret Nt Nc Nh _ (q8 hM) Ns (hS.st.pick [1, 2, 3, 0, 4] (by kernel_rfl)))
theorem vm {H : xT} {F : List qk} {w : World} {R : Ending → World → Prop} {kr : (Int × Int) → Prop} {kp : Value → Prop} (hG : Gl H) (K : Nat) (M4 : qx) (M3 : xB) (M5 : Nat) (M7 : qk) (Na : Nat) (Nh : qk) (Nd : Option Addr) (Ng : Nat) (M8 : qk) (Nm : xM M7 M5 ([qL Na 0, .slice Nd M4.out_.length Ng, .int .i64 M4.limit_]) 97) (Nn : xM Nh Na ([.int .i64 M4.Reader_.place_.at_, xf M4.Reader_.text_]) 118) (No : xj 5 (ci .u8) 1 Nd M4.out_ Ng M8)
    (hS : St w H [M7, Nh, M8] F) (hm : (ya.m K M4 M3).wp kr kp)
    (hret : ∀ (Np : Int) (M6 : Int) (Nl : qk) (w : World), kr (Np, M6) → (xM Nl Na ([.int .i64 M6, xf M4.Reader_.text_]) 118) → St w H [M7, Nl, M8] F → R (.returned (.int .i64 Np)) w)
    (hpan : ∀ v w, kp v → St w H [] F → R (.panicked [⟨v, false, false⟩]) w) :
    Calls Tryd.prog 82 ⟨[qL M5 0, .agg ⟨[.int .i64 M3.from_, .int .i64 M3.bits_]⟩]⟩ w R := by
 refine enter Tryd.func82 rfl Tryd.ntmps82 rfl hS fun a w hS => ?_
 have hM := hm; clear hm
 rw [ya.m] at hM
 refine qm <| bx ([.int .i64 M3.from_, .int .i64 M3.bits_]) hS rfl rfl rfl fun w Nb Nq M9 hS => sA hS rfl fun hS => qA <| wp_seq <| q9 (vals := [some (qL Nb 0), some (.int .i64 M3.from_), some (qL M5 0), some (qL Nb 1), some (.int .i64 M3.bits_), none, none, none]) hS xF rfl ?_
 intro l w ho hcl hA hst
 refine jf hA hst ho hcl xu xG 5 [0, 1, 2, 3, 4] rfl rfl rfl rfl rfl (by exact ⟨nQ rfl (by exact qX (xw rfl Tryd.runUnderlying142 rfl Tryd.sizeOf3 rfl) rfl), nQ rfl (by exact qX (x5 0 rfl M9 rfl rfl Tryd.isAgg3) rfl), nM rfl, nQ rfl (by exact qX (xw rfl Tryd.runUnderlying142 rfl Tryd.sizeOf3 rfl) rfl), nQ rfl (by exact qX (x5 0 rfl M9 rfl rfl Tryd.isAgg3) rfl), trivial⟩) fun D l a w ho hcl hav hpre hm hE hk hA hst => ?_
 have hS := (Ss.mk hE hst).env2 (e' := [(7, qL M5 0), (9, .int .i64 M3.bits_)]) ⟨rfl, rfl, trivial⟩
 refine qR rfl <| qI hS rfl Tryd.call60 (z5 hG K M4 M3.bits_ M5 M7 Na Nh Nd Ng M8 Nm Nn No (hS.st.part 3 [1, 2, 3, 0] (by kernel_rfl)) (qt hM) (fun Nj Nf Nk w hM Nr hst => qB hS.ev hst.appF rfl fun hS => ?_) (fun v w hk hst => xo (qD (qD (⟨hS.ev.defs, hpan _ _ hk hst.appF.frame⟩)))))
 replace hS : Ss _ _ _ H [M7, Nk, M8, Nq] F _ _ := hS
 refine qA ?_
 replace hst := hS.st
 obtain ⟨Ni, Nc⟩ : ∃ x, x = (qg (M3.from_ + Nj)) := ⟨_, rfl⟩
 replace hM := qz Nc hM
 obtain ⟨hcl, hmust, hav2, hA⟩ := dn (vals' := [some (qL Nb 0), some (.int .i64 M3.from_), some (qL M5 0), some (qL Nb 1), some (.int .i64 M3.bits_), some (.int .i64 Nj), some (.int .i64 (qg (M3.from_ + Nj))), some (.int .i64 Ni)]) 5 [(2, 5), (4, 5), (3, 4)] hA hcl hav hm hpre hk rfl rfl rfl rfl rfl rfl rfl
 clear hm hav
 refine yk hA hst ho hcl hmust [0, 1, 6, 7] rfl rfl rfl (by exact ⟨nQ rfl (by exact qX (xw rfl Tryd.runUnderlying142 rfl Tryd.sizeOf3 rfl) rfl), nQ rfl (by exact qX (x5 3 rfl M9 rfl rfl Tryd.isAgg3) rfl), nB rfl, nQ rfl (by exact qX (xA rfl) (congrArg (Value.int .i64) Nc.symm)), trivial⟩) fun a w hS => ?_
 replace hS := hS.env2 (e' := [(4, .int .i64 Ni)]) ⟨rfl, trivial⟩
 refine qe <| wp_ret ?_
 exact zE (rs := [4]) hS rfl rfl (hret Ni Nf Nk _ (q8 hM) Nr (hS.st.pick [0, 1, 2] (by kernel_rfl)))
theorem jy {H : xT} {F : List qk} {w : World} {R : Ending → World → Prop} {kr : (Int × (List Int)) → Prop} {kp : Value → Prop} (hG : Gl H) (K : Nat) (M8 : qx) (M7 : qH) (Nb : qH) (M4 : Nat) (N9 : qk) (Nm : Nat) (Pa : qk) (N3 : Option Addr) (N6 : Nat) (Pb : qk) (Nx : Nat) (Nh : qk) (N4 : Option Addr) (N7 : Nat) (Ni : qk) (Ny : Nat) (Nj : qk) (N5 : Option Addr) (N8 : Nat) (Nk : qk) (Py : xM N9 M4 ([qL Nm 0, .slice N3 M8.out_.length N6, .int .i64 M8.limit_]) 97) (Pz : xM Pa Nm ([.int .i64 M8.Reader_.place_.at_, xf M8.Reader_.text_]) 118) (PD : xj 5 (ci .u8) 1 N3 M8.out_ N6 Pb) (PA : xM Nh Nx ((M7.counts_.flatMap (ci .i64)) ++ [.slice N4 M7.symbols_.length N7]) 160) (PG : M7.counts_.length = 16) (PE : xj 3 (ci .i64) 1 N4 M7.symbols_ N7 Ni) (PB : xM Nj Ny ((Nb.counts_.flatMap (ci .i64)) ++ [.slice N5 Nb.symbols_.length N8]) 160) (PH : Nb.counts_.length = 16) (PF : xj 3 (ci .i64) 1 N5 Nb.symbols_ N8 Nk)
    (hS : St w H [N9, Pa, Pb, Nh, Ni, Nj, Nk] F) (hm : (qV.m K M8 M7 Nb).wp kr kp)
    (hret : ∀ (NF : Int) (NZ : qk) (NV : Option Addr) (NX : Nat) (Nu : (List Int)) (N0 : qk) (N1 : qk) (w : World), kr (NF, Nu) → (xM NZ Nm ([.int .i64 NF, xf M8.Reader_.text_]) 118) → (xj 5 (ci .u8) 1 NV Nu NX N0) → (xM N1 M4 ([qL Nm 0, .slice NV Nu.length NX, .int .i64 M8.limit_]) 97) → St w H [Nj, Nk, Nh, Ni, N1, NZ, N0] F → R (.returned (.tuple ⟨[]⟩)) w)
    (hpan : ∀ v w, kp v → St w H [] F → R (.panicked [⟨v, false, false⟩]) w) :
    Calls Tryd.prog 62 ⟨[qL M4 0, qL Nx 0, qL Ny 0]⟩ w R := by
 refine enter Tryd.func62 rfl Tryd.ntmps62 rfl hS fun a w hS => ?_
 have hM := hm; clear hm
 rw [qV.m] at hM
 refine xQ <| zv (fun Pp a w => ∃ (Ns : Int) (NT : qk) (Nl : Option Addr) (Nn : Nat) (M5 : (List Int)) (Nf : qk) (Ng : qk), Ss 108 [] [(0, qL M4 0), (1, qL Nx 0), (2, qL Ny 0)] H [Nj, Nk, Nh, Ni, Ng, NT, Nf] F a w ∧ (xM NT Nm ([.int .i64 Ns, xf M8.Reader_.text_]) 118) ∧ (xj 5 (ci .u8) 1 Nl M5 Nn Nf) ∧ (xM Ng M4 ([qL Nm 0, .slice Nl M5.length Nn, .int .i64 M8.limit_]) 97) ∧ (qV.l1 K M8 M7 Nb Pp Ns M5).wp kr kp) K ?_ ?_ ?_
 ·exact ⟨M8.Reader_.place_.at_, Pa, N3, N6, M8.out_, Pb, N9, hS.to [5, 6, 3, 4, 0, 1, 2] (by kernel_rfl) ⟨rfl, rfl, rfl, trivial⟩, Pz, PD, Py, hM⟩
 ·intro a w hI; obtain ⟨_, _, _, _, _, _, _, _, _, _, _, hM⟩ := hI; exact zu hM
 ·intro Pp a w hI PL NL
  obtain ⟨Ns, NT, Nl, Nn, M5, Nf, Ng, hS, PC, Np, Nc, hM⟩ := hI
  rw [qV.l1] at hM
  refine xQ <| qm <| sM hS rfl fun hS => sM hS rfl fun hS => qI hS rfl Tryd.call81 (yQ hG K (qx.mk (qG.mk (qr.mk Ns) M8.Reader_.text_) M5 M8.limit_) M7 M4 Ng Nm NT Nl Nn Nf Nx Nh N4 N7 Ni Nc PC Np PA PG PE (hS.st.part 5 [4, 5, 6, 2, 3, 0, 1] (by kernel_rfl)) (qt hM) (fun Nv NC Nr w hM NK hst => qB hS.ev hst.appF rfl fun hS => ?_) (fun v w hk hst => xo (qD (zR (qD (zR (⟨hS.ev.defs, hpan _ _ hk hst.appF.frame⟩)))))))
  replace hS : Ss _ _ _ H [Nh, Ni, Ng, Nr, Nf, Nj, Nk] F _ _ := hS
  refine sA hS rfl fun hS => qA <| wp_seq <| xQ <| qm <| sM hS rfl fun hS => sB hS rfl fun hS => zF (v := Value.bool) (x0 := (Nv == (256 : Int))) hS (xA rfl) rfl fun PP a w hz hS => ?_
  have hM := qz hz hM; clear hz
  refine qA <| qF hS rfl hM (fun Pj hM => ?_) (fun Pj hM => ?_)
  ·refine wp_ret ?_
   refine x6 (zk (x6 (zk (x6 ?_))))
   exact zE (rs := []) hS rfl rfl (hret NC Nr Nl Nn M5 Nf Ng _ (q8 hM) NK Np Nc (hS.st.pick [5, 6, 0, 1, 2, 3, 4] (by kernel_rfl)))
  ·refine wp_seq ?_
   refine zM <| sM hS rfl fun hS => sB hS rfl fun hS => zF (v := Value.bool) (x0 := (decide (Nv < (256 : Int)))) hS (xA rfl) rfl fun PQ a w hz hS => ?_
   have hM := qz hz hM; clear hz
   refine qA <| qF hS rfl hM (fun Pk hM => ?_) (fun Pk hM => ?_)
   ·refine wp_seq ?_
    refine q9 (vals := [some (qL M4 0), some (qL M4 0), some (qL M4 1), some (.slice Nl M5.length Nn), some (.int .i64 (M5.length : Int)), some (qL M4 0), some (qL M4 0), some (qL M4 2), some (.int .i64 M8.limit_), some (.bool ((M5.length : Int) == M8.limit_)), none]) hS xF rfl ?_
    intro l w ho hcl hA hst
    refine jf hA hst ho hcl xu xG 10 [0, 1, 2, 3, 4, 5, 6, 7, 8, 9] rfl rfl rfl rfl rfl (by exact ⟨nM rfl, nQ rfl (by exact qX (yz rfl) rfl), nQ rfl (by exact qX (xw rfl Tryd.runUnderlying97 rfl Tryd.sizeOf32 rfl) rfl), nQ rfl (by exact qX (x5 2 rfl Nc rfl rfl Tryd.isAgg32) rfl), nQ rfl (by exact qX (yc rfl Tryd.runUnderlying32) rfl), nM rfl, nQ rfl (by exact qX (yz rfl) rfl), nQ rfl (by exact qX (xw rfl Tryd.runUnderlying97 rfl Tryd.sizeOf3 rfl) rfl), nQ rfl (by exact qX (x5 2 rfl Nc rfl rfl Tryd.isAgg3) rfl), nB rfl, trivial⟩) fun D l a w ho hcl hav hpre hm hE hk hA hst => ?_
    have hS := (Ss.mk hE hst).env2 (e' := [(28, .bool ((M5.length : Int) == M8.limit_))]) ⟨rfl, trivial⟩
    refine qR rfl <| qI hS rfl Tryd.call65 (xc hG K ((M5.length : Int) == M8.limit_) (11 : Int) (hS.st.part 0 [0, 1, 2, 3, 4, 5, 6] (by kernel_rfl)) (qt hM) (fun  w hM  hst => qB hS.ev hst.appF rfl fun hS => ?_) (fun v w hk hst => xo (qD (qD (zR (qD (zR (qD (zR (⟨hS.ev.defs, hpan _ _ hk hst.appF.frame⟩))))))))))
    replace hS : Ss _ _ _ H [Nh, Ni, Ng, Nr, Nf, Nj, Nk] F _ _ := hS
    refine qA ?_
    replace hst := hS.st
    obtain ⟨hcl, hmust, hav2, hA⟩ := dn (vals' := [some (qL M4 0), some (qL M4 0), some (qL M4 1), some (.slice Nl M5.length Nn), some (.int .i64 (M5.length : Int)), some (qL M4 0), some (qL M4 0), some (qL M4 2), some (.int .i64 M8.limit_), some (.bool ((M5.length : Int) == M8.limit_)), some (.tuple ⟨[]⟩)]) 10 [(9, 10), (4, 9), (8, 9), (3, 4), (7, 8), (2, 3), (6, 7), (1, 2), (5, 6), (0, 1)] hA hcl hav hm hpre hk rfl rfl rfl rfl rfl rfl rfl
    clear hm hav
    refine yk hA hst ho hcl hmust [] rfl rfl rfl trivial fun a w hS => ?_
    replace hS := hS.env2 (e' := [(0, qL M4 0), (1, qL Nx 0), (2, qL Ny 0), (6, .int .i64 Nv)]) ⟨rfl, rfl, rfl, rfl, trivial⟩
    refine qe <| qm <| sM hS rfl fun hS => sM hS rfl fun hS => sO hS (yz rfl) rfl fun hS => sO hS (xw rfl Tryd.runUnderlying97 rfl Tryd.sizeOf32 rfl) rfl fun hS => sO hS (x5 2 rfl Nc rfl rfl Tryd.isAgg32) rfl fun hS => sM hS rfl fun hS => sO hS (ux rfl Tryd.runUnderlying3 Tryd.runUnderlying5) rfl fun hS => Jv (g := (ci .u8)) ([(wr .u8 Nv)] : List Int) [.int .u8 (wr .u8 Nv)] hS Tryd.runUnderlying32 Tryd.sizeOf5 X.el5 rfl rfl rfl (by simp [Value.cells]) rfl rfl rfl rfl rfl fun w PI PM PN Pf hS => ?_
    obtain ⟨Pn, hM⟩ := qK hM
    refine J5 (ys := ([(wr .u8 Nv)] : List Int)) 5 hS rfl rfl Np rfl (Pf.rd (i := 0) rfl) Tryd.runUnderlying32 Tryd.runUnderlying32 X.el5 (fun _ => rfl) rfl u4 Pn rfl fun NQ w NU NW Pq hz Pg hS => ?_
    have hM := qz hz hM; clear hz
    refine sO hS (yz rfl) rfl fun hS => sO hS (xw rfl Tryd.runUnderlying97 rfl Tryd.sizeOf32 rfl) rfl fun hS => J7 3 ([qL Nm 0, .slice NU NQ.length NW, .int .i64 M8.limit_]) hS rfl rfl Nc rfl rfl rfl rfl Tryd.sizeOf32 fun w Pr Pc hS => qA <| wp_exit <| Bj rfl (qE (zd (qe ?_)))
    exact NL _ _ ⟨NC, Nr, NU, NW, NQ, Pq, Pr, hS.to [6, 7, 1, 2, 3, 4, 5] (by kernel_rfl) ⟨rfl, rfl, rfl, trivial⟩, NK, Pg, Pc, hM⟩
   ·refine wp_skip ?_
    refine zx (qe ?_)
    refine qm <| sM hS rfl fun hS => sB hS rfl fun hS => qI hS rfl Tryd.call65 (xc hG K (decide (Nv ≥ (286 : Int))) (3 : Int) (hS.st.part 0 [0, 1, 2, 3, 4, 5, 6] (by kernel_rfl)) (qt hM) (fun  w hM  hst => qB hS.ev hst.appF rfl fun hS => ?_) (fun v w hk hst => xo (qD (zR (qD (zR (⟨hS.ev.defs, hpan _ _ hk hst.appF.frame⟩)))))))
    replace hS : Ss _ _ _ H [Nh, Ni, Ng, Nr, Nf, Nj, Nk] F _ _ := hS
    refine qA <| qm <| sM hS rfl fun hS => sM hS rfl fun hS => sB hS rfl fun hS => ?_
    obtain ⟨NM, hM⟩ := qK hM
    refine sO hS (Ub rfl rfl Tryd.runUnderlying143 Tryd.sizeOf142 NM) rfl fun hS => sO hS (LN rfl hG.g1 (fun _ => rfl) NM Tryd.isAgg142 Tryd.sizeOf142) rfl fun hS => qI hS rfl Tryd.call82 (vm hG K (qx.mk (qG.mk (qr.mk NC) M8.Reader_.text_) M5 M8.limit_) (xB.mk ((rd tab_inflate_lengths (qg (Nv - (257 : Int)))).from_) ((rd tab_inflate_lengths (qg (Nv - (257 : Int)))).bits_)) M4 Ng Nm Nr Nl Nn Nf Nc NK Np (hS.st.part 3 [2, 3, 4, 0, 1, 5, 6] (by kernel_rfl)) (qt hM) (fun Nd NR NY w hM Pv hst => qB hS.ev hst.appF rfl fun hS => ?_) (fun v w hk hst => xo (qD (zR (qD (zR (⟨hS.ev.defs, hpan _ _ hk hst.appF.frame⟩)))))))
    replace hS : Ss _ _ _ H [Ng, NY, Nf, Nh, Ni, Nj, Nk] F _ _ := hS
    refine sA hS rfl fun hS => qA <| qm <| sM hS rfl fun hS => sM hS rfl fun hS => qI hS rfl Tryd.call81 (yQ hG K (qx.mk (qG.mk (qr.mk NR) M8.Reader_.text_) M5 M8.limit_) Nb M4 Ng Nm NY Nl Nn Nf Ny Nj N5 N8 Nk Nc Pv Np PB PH PF (hS.st.part 5 [0, 1, 2, 5, 6, 3, 4] (by kernel_rfl)) (qt hM) (fun NP NS NJ w hM Pw hst => qB hS.ev hst.appF rfl fun hS => ?_) (fun v w hk hst => xo (qD (zR (qD (zR (⟨hS.ev.defs, hpan _ _ hk hst.appF.frame⟩)))))))
    replace hS : Ss _ _ _ H [Nj, Nk, Ng, NJ, Nf, Nh, Ni] F _ _ := hS
    refine sA hS rfl fun hS => qA <| qm <| sM hS rfl fun hS => sB hS rfl fun hS => qI hS rfl Tryd.call65 (xc hG K (decide (NP ≥ (30 : Int))) (3 : Int) (hS.st.part 0 [0, 1, 2, 3, 4, 5, 6] (by kernel_rfl)) (qt hM) (fun  w hM  hst => qB hS.ev hst.appF rfl fun hS => ?_) (fun v w hk hst => xo (qD (zR (qD (zR (⟨hS.ev.defs, hpan _ _ hk hst.appF.frame⟩)))))))
    replace hS : Ss _ _ _ H [Nj, Nk, Ng, NJ, Nf, Nh, Ni] F _ _ := hS
    refine qA <| qm <| sM hS rfl fun hS => sM hS rfl fun hS => ?_
    obtain ⟨NN, hM⟩ := qK hM
    refine sO hS (Ub rfl rfl Tryd.runUnderlying144 Tryd.sizeOf142 NN) rfl fun hS => sO hS (LN rfl hG.g2 (fun _ => rfl) NN Tryd.isAgg142 Tryd.sizeOf142) rfl fun hS => qI hS rfl Tryd.call82 (vm hG K (qx.mk (qG.mk (qr.mk NS) M8.Reader_.text_) M5 M8.limit_) (xB.mk ((rd tab_inflate_distances NP).from_) ((rd tab_inflate_distances NP).bits_)) M4 Ng Nm NJ Nl Nn Nf Nc Pw Np (hS.st.part 3 [2, 3, 4, 0, 1, 5, 6] (by kernel_rfl)) (qt hM) (fun M6 NE NA w hM Px hst => qB hS.ev hst.appF rfl fun hS => ?_) (fun v w hk hst => xo (qD (zR (qD (zR (⟨hS.ev.defs, hpan _ _ hk hst.appF.frame⟩)))))))
    replace hS : Ss _ _ _ H [Ng, NA, Nf, Nj, Nk, Nh, Ni] F _ _ := hS
    refine sA hS rfl fun hS => qA <| qm <| sM hS rfl fun hS => sM hS rfl fun hS => sO hS (yz rfl) rfl fun hS => sO hS (xw rfl Tryd.runUnderlying97 rfl Tryd.sizeOf32 rfl) rfl fun hS => sO hS (x5 0 rfl Nc rfl rfl Tryd.isAgg32) rfl fun hS => sO hS (yc rfl Tryd.runUnderlying32) rfl fun hS => sB hS rfl fun hS => qI hS rfl Tryd.call65 (xc hG K (decide (M6 > (M5.length : Int))) (3 : Int) (hS.st.part 0 [0, 1, 2, 3, 4, 5, 6] (by kernel_rfl)) (qt hM) (fun  w hM  hst => qB hS.ev hst.appF rfl fun hS => ?_) (fun v w hk hst => xo (qD (zR (qD (zR (⟨hS.ev.defs, hpan _ _ hk hst.appF.frame⟩)))))))
    replace hS : Ss _ _ _ H [Ng, NA, Nf, Nj, Nk, Nh, Ni] F _ _ := hS
    refine qA <| wp_seq <| q9 (vals := [some (qL M4 0), some (qL M4 0), some (qL M4 1), some (.slice Nl M5.length Nn), some (.int .i64 (M5.length : Int)), some (.int .i64 Nd), some (.int .i64 (qg ((M5.length : Int) + Nd))), some (qL M4 0), some (qL M4 0), some (qL M4 2), some (.int .i64 M8.limit_), some (.bool (decide ((qg ((M5.length : Int) + Nd)) > M8.limit_))), none]) hS xF rfl ?_
    intro l w ho hcl hA hst
    refine jf hA hst ho hcl xu xG 12 [0, 1, 2, 3, 4, 5, 6, 7, 8, 9, 10, 11] rfl rfl rfl rfl rfl (by exact ⟨nM rfl, nQ rfl (by exact qX (yz rfl) rfl), nQ rfl (by exact qX (xw rfl Tryd.runUnderlying97 rfl Tryd.sizeOf32 rfl) rfl), nQ rfl (by exact qX (x5 0 rfl Nc rfl rfl Tryd.isAgg32) rfl), nQ rfl (by exact qX (yc rfl Tryd.runUnderlying32) rfl), nM rfl, nB rfl, nM rfl, nQ rfl (by exact qX (yz rfl) rfl), nQ rfl (by exact qX (xw rfl Tryd.runUnderlying97 rfl Tryd.sizeOf3 rfl) rfl), nQ rfl (by exact qX (x5 0 rfl Nc rfl rfl Tryd.isAgg3) rfl), nB rfl, trivial⟩) fun D l a w ho hcl hav hpre hm hE hk hA hst => ?_
    have hS := (Ss.mk hE hst).env2 (e' := [(80, .bool (decide ((qg ((M5.length : Int) + Nd)) > M8.limit_)))]) ⟨rfl, trivial⟩
    refine qR rfl <| qI hS rfl Tryd.call65 (xc hG K (decide ((qg ((M5.length : Int) + Nd)) > M8.limit_)) (11 : Int) (hS.st.part 0 [0, 1, 2, 3, 4, 5, 6] (by kernel_rfl)) (qt hM) (fun  w hM  hst => qB hS.ev hst.appF rfl fun hS => ?_) (fun v w hk hst => xo (qD (qD (zR (qD (zR (⟨hS.ev.defs, hpan _ _ hk hst.appF.frame⟩))))))))
    replace hS : Ss _ _ _ H [Ng, NA, Nf, Nj, Nk, Nh, Ni] F _ _ := hS
    refine qA ?_
    replace hst := hS.st
    obtain ⟨hcl, hmust, hav2, hA⟩ := dn (vals' := [some (qL M4 0), some (qL M4 0), some (qL M4 1), some (.slice Nl M5.length Nn), some (.int .i64 (M5.length : Int)), some (.int .i64 Nd), some (.int .i64 (qg ((M5.length : Int) + Nd))), some (qL M4 0), some (qL M4 0), some (qL M4 2), some (.int .i64 M8.limit_), some (.bool (decide ((qg ((M5.length : Int) + Nd)) > M8.limit_))), some (.tuple ⟨[]⟩)]) 12 [(11, 12), (6, 11), (10, 11), (4, 6), (5, 6), (9, 10), (3, 4), (8, 9), (2, 3), (7, 8), (1, 2), (0, 1)] hA hcl hav hm hpre hk rfl rfl rfl rfl rfl rfl rfl
    clear hm hav
    refine yk hA hst ho hcl hmust [] rfl rfl rfl trivial fun a w hS => ?_
    replace hS := hS.env2 (e' := [(0, qL M4 0), (1, qL Nx 0), (2, qL Ny 0), (7, .int .i64 Nd), (9, .int .i64 M6)]) ⟨rfl, rfl, rfl, rfl, rfl, trivial⟩
    refine qe <| qm <| sM hS rfl fun hS => sM hS rfl fun hS => qA <| xQ <| zv (fun N2 a w => ∃ (M9 : Option Addr) (Na : Nat) (M3 : (List Int)) (NH : qk) (NI : qk) (NB : Int), Ss 108 [] [(0, qL M4 0), (1, qL Nx 0), (2, qL Ny 0), (9, .int .i64 M6), (82, .int .i64 Nd), (83, .int .i64 NB)] H [Nj, Nk, Nh, Ni, NI, NA, NH] F a w ∧ (xj 5 (ci .u8) 1 M9 M3 Na NH) ∧ (xM NI M4 ([qL Nm 0, .slice M9 M3.length Na, .int .i64 M8.limit_]) 97) ∧ (qV.l2 K (qV.l1 K M8 M7 Nb Pp) Nd M6 NE N2 M3 NB).wp kr kp) K ?_ ?_ ?_
    ·exact ⟨Nl, Nn, M5, Nf, Ng, (0 : Int), hS.to [3, 4, 5, 6, 0, 1, 2] (by kernel_rfl) ⟨rfl, rfl, rfl, rfl, rfl, rfl, trivial⟩, Np, Nc, hM⟩
    ·intro a w hI; obtain ⟨_, _, _, _, _, _, _, _, _, hM⟩ := hI; exact zu hM
    ·intro N2 a w hI PJ Pe
     obtain ⟨M9, Na, M3, NH, NI, NB, hS, Nt, No, hM⟩ := hI
     rw [qV.l2] at hM
     refine qm <| sB hS rfl fun hS => qA <| wp_seq <| qF hS rfl hM (fun Pm hM => ?_) (fun Pm hM => ?_)
     ·refine wp_skip ?_
      refine qe <| wp_seq <| xQ ?_
      obtain ⟨NO, hM⟩ := qK hM
      refine q9 (vals := [some (qL M4 0), some (qL M4 0), some (qL M4 0), some (qL M4 1), some (.slice M9 M3.length Na), some (qL M4 0), some (qL M4 0), some (qL M4 1), some (.slice M9 M3.length Na), some (qL M4 0), some (qL M4 0), some (qL M4 1), some (.slice M9 M3.length Na), some (.int .i64 (M3.length : Int)), some (.int .i64 M6), some (.int .i64 (qg ((M3.length : Int) - M6))), some (xE M9 (Int.toNat (qg ((M3.length : Int) - M6)) * 1)), some (.int .u8 (rd M3 (qg ((M3.length : Int) - M6)))), none, none, none, none, none]) hS xF rfl ?_
      intro l w ho hcl hA hst
      refine jf hA hst ho hcl xu xG 18 [0, 1, 2, 3, 4, 5, 6, 7, 8, 9, 10, 11, 12, 13, 14, 15, 16, 17] rfl rfl rfl rfl rfl (by exact ⟨nM rfl, nM rfl, nQ rfl (by exact qX (yz rfl) rfl), nQ rfl (by exact qX (xw rfl Tryd.runUnderlying97 rfl Tryd.sizeOf32 rfl) rfl), nQ rfl (by exact qX (x5 4 rfl No rfl rfl Tryd.isAgg32) rfl), nM rfl, nQ rfl (by exact qX (yz rfl) rfl), nQ rfl (by exact qX (xw rfl Tryd.runUnderlying97 rfl Tryd.sizeOf32 rfl) rfl), nQ rfl (by exact qX (x5 4 rfl No rfl rfl Tryd.isAgg32) rfl), nM rfl, nQ rfl (by exact qX (yz rfl) rfl), nQ rfl (by exact qX (xw rfl Tryd.runUnderlying97 rfl Tryd.sizeOf32 rfl) rfl), nQ rfl (by exact qX (x5 4 rfl No rfl rfl Tryd.isAgg32) rfl), nQ rfl (by exact qX (yc rfl Tryd.runUnderlying32) rfl), nM rfl, nB rfl, nQ rfl (by exact qX (yu rfl rfl Tryd.runUnderlying32 Tryd.sizeOf5 (Nt.rd (i := 6) rfl) (fun _ => rfl) rfl NO) rfl), nQ rfl (by exact qX (yG rfl (Nt.rd (i := 6) rfl) (fun _ => rfl) NO rfl Tryd.isAgg5) rfl), trivial⟩) fun D l a w ho hcl hav hpre hm hE hk hA hst => ?_
      have hS := (Ss.mk hE hst).env2 (e' := [(102, .int .u8 (rd M3 (qg ((M3.length : Int) - M6))))]) ⟨rfl, trivial⟩
      refine qR rfl <| Jv (g := (ci .u8)) ([(rd M3 (qg ((M3.length : Int) - M6)))] : List Int) [.int .u8 (rd M3 (qg ((M3.length : Int) - M6)))] hS Tryd.runUnderlying32 Tryd.sizeOf5 X.el5 rfl rfl rfl (by simp [Value.cells]) rfl rfl rfl rfl rfl fun w ND NG PO Ph hS => qA ?_
      replace hst := hS.st
      obtain ⟨hcl, hmust, hav2, hA⟩ := dn (vals' := [some (qL M4 0), some (qL M4 0), some (qL M4 0), some (qL M4 1), some (.slice M9 M3.length Na), some (qL M4 0), some (qL M4 0), some (qL M4 1), some (.slice M9 M3.length Na), some (qL M4 0), some (qL M4 0), some (qL M4 1), some (.slice M9 M3.length Na), some (.int .i64 (M3.length : Int)), some (.int .i64 M6), some (.int .i64 (qg ((M3.length : Int) - M6))), some (xE M9 (Int.toNat (qg ((M3.length : Int) - M6)) * 1)), some (.int .u8 (rd M3 (qg ((M3.length : Int) - M6)))), some (.slice ND ([(rd M3 (qg ((M3.length : Int) - M6)))] : List Int).length NG), none, none, none, none]) 18 [(17, 18), (16, 17), (8, 16), (15, 16), (7, 8), (13, 15), (14, 15), (6, 7), (12, 13), (5, 6), (11, 12), (10, 11), (9, 10)] hA hcl hav hm hpre hk rfl rfl rfl rfl rfl rfl rfl
      clear hm hav
      refine jf hA hst ho hcl hav2 hmust 19 [0, 1, 2, 3, 4] rfl rfl rfl rfl rfl (by exact ⟨nM rfl, nM rfl, nQ rfl (by exact qX (yz rfl) rfl), nQ rfl (by exact qX (xw rfl Tryd.runUnderlying97 rfl Tryd.sizeOf32 rfl) rfl), nQ rfl (by exact qX (x5 5 rfl No rfl rfl Tryd.isAgg32) rfl), trivial⟩) fun D l a w ho hcl hav hpre hm hE hk hA hst => ?_
      have hS := (Ss.mk hE hst).env2 (e' := [(89, .slice M9 M3.length Na), (103, .slice ND ([(rd M3 (qg ((M3.length : Int) - M6)))] : List Int).length NG)]) ⟨rfl, rfl, trivial⟩
      refine qR rfl ?_
      obtain ⟨Po, hM⟩ := qK hM
      refine J5 (ys := ([(rd M3 (qg ((M3.length : Int) - M6)))] : List Int)) 7 hS rfl rfl Nt rfl (Ph.rd (i := 0) rfl) Tryd.runUnderlying32 Tryd.runUnderlying32 X.el5 (fun _ => rfl) rfl u4 Po rfl fun Nq w Nw Nz Ps hz Pi hS => ?_
      have hM := qz hz hM; clear hz
      refine qA ?_
      replace hst := hS.st
      obtain ⟨hcl, hmust, hav2, hA⟩ := dn (vals' := [some (qL M4 0), some (qL M4 0), some (qL M4 0), some (qL M4 1), some (.slice M9 M3.length Na), some (qL M4 0), some (qL M4 0), some (qL M4 1), some (.slice M9 M3.length Na), some (qL M4 0), some (qL M4 0), some (qL M4 1), some (.slice M9 M3.length Na), some (.int .i64 (M3.length : Int)), some (.int .i64 M6), some (.int .i64 (qg ((M3.length : Int) - M6))), some (xE M9 (Int.toNat (qg ((M3.length : Int) - M6)) * 1)), some (.int .u8 (rd M3 (qg ((M3.length : Int) - M6)))), some (.slice ND ([(rd M3 (qg ((M3.length : Int) - M6)))] : List Int).length NG), some (.slice Nw Nq.length Nz), some (qL M4 0), some (qL M4 1), none]) 19 [(4, 19), (18, 19), (3, 4), (17, 18), (2, 3), (16, 17), (1, 2), (8, 16), (15, 16), (7, 8), (13, 15), (14, 15), (6, 7), (12, 13), (5, 6), (11, 12), (10, 11), (9, 10)] hA hcl hav hm hpre hk rfl rfl rfl rfl rfl rfl rfl
      clear hm hav
      refine jf hA hst ho hcl hav2 hmust 22 [0, 20, 21] rfl rfl rfl rfl rfl (by exact ⟨nM rfl, nQ rfl (by exact qX (yz rfl) rfl), nQ rfl (by exact qX (xw rfl Tryd.runUnderlying97 rfl Tryd.sizeOf32 rfl) rfl), trivial⟩) fun D l a w ho hcl hav hpre hm hE hk hA hst => ?_
      have hS := (Ss.mk hE hst).env2 (e' := [(104, .slice Nw Nq.length Nz), (106, qL M4 1)]) ⟨rfl, rfl, trivial⟩
      refine qR rfl <| J7 5 ([qL Nm 0, .slice Nw Nq.length Nz, .int .i64 M8.limit_]) hS rfl rfl No rfl rfl rfl rfl Tryd.sizeOf32 fun w Pt Pd hS => qA ?_
      replace hst := hS.st
      obtain ⟨hcl, hmust, hav2, hA⟩ := Xy (vals' := [some (qL M4 0), some (qL M4 0), some (qL M4 0), some (qL M4 1), some (.slice M9 M3.length Na), some (qL M4 0), some (qL M4 0), some (qL M4 1), some (.slice M9 M3.length Na), some (qL M4 0), some (qL M4 0), some (qL M4 1), some (.slice M9 M3.length Na), some (.int .i64 (M3.length : Int)), some (.int .i64 M6), some (.int .i64 (qg ((M3.length : Int) - M6))), some (xE M9 (Int.toNat (qg ((M3.length : Int) - M6)) * 1)), some (.int .u8 (rd M3 (qg ((M3.length : Int) - M6)))), some (.slice ND ([(rd M3 (qg ((M3.length : Int) - M6)))] : List Int).length NG), some (.slice Nw Nq.length Nz), some (qL M4 0), some (qL M4 1), some undef]) 22 [(0, 22), (1, 22), (2, 22), (3, 22), (4, 22), (5, 22), (6, 22), (7, 22), (8, 22), (9, 22), (10, 22), (11, 22), (12, 22), (13, 22), (14, 22), (15, 22), (16, 22), (17, 22), (18, 22), (19, 22), (21, 22), (20, 21)] hA hcl hav hm hpre rfl rfl rfl rfl rfl
      clear hm hav
      refine yk hA hst ho hcl hmust [] rfl rfl rfl trivial fun a w hS => ?_
      replace hS := hS.env2 (e' := [(0, qL M4 0), (1, qL Nx 0), (2, qL Ny 0), (9, .int .i64 M6), (82, .int .i64 Nd), (83, .int .i64 NB)]) ⟨rfl, rfl, rfl, rfl, rfl, rfl, trivial⟩
      refine zx (qe ?_)
      refine zM <| sB hS rfl fun hS => sM hS rfl fun hS => zo <| qe ?_
      exact Pe _ _ ⟨Nw, Nz, Nq, Ps, Pt, (qg (NB + (1 : Int))), hS.to [1, 2, 3, 4, 5, 6, 7] (by kernel_rfl) ⟨rfl, rfl, rfl, rfl, rfl, rfl, trivial⟩, Pi, Pd, hM⟩
     ·refine wp_exit ?_
      refine qE (qE (zd (zx (qe ?_))))
      exact NL _ _ ⟨NE, NA, M9, Na, M3, NH, NI, hS.to [0, 1, 2, 3, 4, 5, 6] (by kernel_rfl) ⟨rfl, rfl, rfl, trivial⟩, Px, Nt, No, hM⟩
theorem Qu {H : xT} {F : List qk} {w : World} {R : Ending → World → Prop} {kr : ((List Int) × Int) → Prop} {kp : Value → Prop} (hG : Gl H) (K : Nat) (M4 : qx) (M9 : Int) (Nk : qH) (Nb : Nat) (M6 : qk) (Nj : Nat) (NM : qk) (Nr : Option Addr) (Ns : Nat) (M7 : qk) (Np : Nat) (Nc : qk) (NK : Option Addr) (NL : Nat) (Nd : qk) (Nv : xM M6 Nb ([qL Nj 0, .slice Nr M4.out_.length Ns, .int .i64 M4.limit_]) 97) (N4 : xM NM Nj ([.int .i64 M4.Reader_.place_.at_, xf M4.Reader_.text_]) 118) (Nx : xj 5 (ci .u8) 1 Nr M4.out_ Ns M7) (N5 : xM Nc Np ((Nk.counts_.flatMap (ci .i64)) ++ [.slice NK Nk.symbols_.length NL]) 160) (Pj : Nk.counts_.length = 16) (N9 : xj 3 (ci .i64) 1 NK Nk.symbols_ NL Nd)
    (hS : St w H [M6, NM, M7, Nc, Nd] F) (hm : (qO.m K M4 M9 Nk).wp kr kp)
    (hret : ∀ (NW : Option Addr) (NX : Nat) (NS : (List Int)) (N1 : qk) (NB : Int) (N2 : qk) (w : World), kr (NS, NB) → (xj 3 (ci .i64) 1 NW NS NX N1) → (xM N2 Nj ([.int .i64 NB, xf M4.Reader_.text_]) 118) → St w H [N1, Nc, Nd, M6, N2, M7] F → R (.returned (.slice NW NS.length NX)) w)
    (hpan : ∀ v w, kp v → St w H [] F → R (.panicked [⟨v, false, false⟩]) w) :
    Calls Tryd.prog 84 ⟨[qL Nb 0, .int .i64 M9, qL Np 0]⟩ w R := by
 refine enter Tryd.func84 rfl Tryd.ntmps84 rfl hS fun a w hS => ?_
 have hM := hm; clear hm
 rw [qO.m] at hM
 refine qm <| sA hS rfl fun hS => ?_
 obtain ⟨PC, Pw, hS⟩ := hS.nilV 3 (ci .i64) 1
 refine qA <| qm <| sA hS rfl fun hS => ?_
 obtain ⟨Po, Pa, hS⟩ := hS.nilV 3 (ci .i64) 1
 refine qA <| wp_seq <| xQ <| zv (fun NF a w => ∃ (Nh : Int) (Nz : qk) (Na : Option Addr) (Ng : Nat) (M3 : (List Int)) (Nf : qk), Ss 63 [] [(0, qL Nb 0), (1, .int .i64 M9), (2, qL Np 0), (7, .slice Na M3.length Ng)] H [Nc, Nd, M6, Nz, M7, Nf] F a w ∧ (xM Nz Nj ([.int .i64 Nh, xf M4.Reader_.text_]) 118) ∧ (xj 3 (ci .i64) 1 Na M3 Ng Nf) ∧ (qO.l1 K M4 M9 Nk NF Nh M3).wp kr kp) K ?_ ?_ ?_
 ·exact ⟨M4.Reader_.place_.at_, NM, none, 0, ([] : List Int), Po, hS.to [5, 6, 2, 3, 4, 0] (by kernel_rfl) ⟨rfl, rfl, rfl, rfl, trivial⟩, N4, Pa, hM⟩
 ·intro a w hI; obtain ⟨_, _, _, _, _, _, _, _, _, hM⟩ := hI; exact zu hM
 ·intro NF a w hI PA N8
  obtain ⟨Nh, Nz, Na, Ng, M3, Nf, hS, NN, Nl, hM⟩ := hI
  rw [qO.l1] at hM
  refine wp_seq <| qm <| sM hS rfl fun hS => sO hS (yc rfl Tryd.runUnderlying66) rfl fun hS => sM hS rfl fun hS => sB hS rfl fun hS => qA <| qF hS rfl hM (fun Pd hM => ?_) (fun Pd hM => ?_)
  ·refine wp_skip ?_
   refine qe <| xQ <| qm <| sM hS rfl fun hS => sM hS rfl fun hS => qI hS rfl Tryd.call81 (yQ hG K (qx.mk (qG.mk (qr.mk Nh) M4.Reader_.text_) M4.out_ M4.limit_) Nk Nb M6 Nj Nz Nr Ns M7 Np Nc NK NL Nd Nv NN Nx N5 Pj N9 (hS.st.part 5 [2, 3, 4, 0, 1, 5] (by kernel_rfl)) (qt hM) (fun NH No Nt w hM NE hst => qB hS.ev hst.appF rfl fun hS => ?_) (fun v w hk hst => xo (qD (zR (qD (zR (qD (⟨hS.ev.defs, hpan _ _ hk hst.appF.frame⟩))))))))
   replace hS : Ss _ _ _ H [Nc, Nd, M6, Nt, M7, Nf] F _ _ := hS
   refine sA hS rfl fun hS => qA <| qm <| sA hS rfl fun hS => sA hS rfl fun hS => qA <| zl (fun a w => ∃ (Ni : Int) (Nu : qk) (M5 : Int) (M8 : Int), Ss 63 [] [(0, qL Nb 0), (1, .int .i64 M9), (2, qL Np 0), (7, .slice Na M3.length Ng), (9, .int .i64 M5), (10, .int .i64 M8)] H [Nc, Nd, M6, Nu, M7, Nf] F a w ∧ (xM Nu Nj ([.int .i64 Ni, xf M4.Reader_.text_]) 118) ∧ (qO.j2 K (qO.l1 K M4 M9 Nk NF) M9 M3 Ni M5 M8).wp kr kp) (fun Py Nw => ?_) ?_
   ·refine xQ ?_
    refine qm <| sM hS rfl fun hS => sB hS rfl fun hS => zF (v := Value.bool) (x0 := (decide (NH < (16 : Int)))) hS (xA rfl) rfl fun PE a w hz hS => ?_
    have hM := qz hz hM; clear hz
    refine qA <| qF hS rfl hM (fun Pe hM => ?_) (fun Pe hM => ?_)
    ·refine zM ?_
     refine sM hS rfl fun hS => sA hS rfl fun hS => zo <| zx (qe ?_)
     exact Nw _ _ ⟨No, Nt, NH, (1 : Int), hS.to [0, 1, 2, 3, 4, 5] (by kernel_rfl) ⟨rfl, rfl, rfl, rfl, rfl, rfl, trivial⟩, NE, hM⟩
    ·refine wp_seq ?_
     refine zM <| sM hS rfl fun hS => sB hS rfl fun hS => zF (v := Value.bool) (x0 := (NH == (16 : Int))) hS (xA rfl) rfl fun PF a w hz hS => ?_
     have hM := qz hz hM; clear hz
     refine qA <| qF hS rfl hM (fun Pf hM => ?_) (fun Pf hM => ?_)
     ·refine wp_seq ?_
      refine zM <| sM hS rfl fun hS => sO hS (yc rfl Tryd.runUnderlying66) rfl fun hS => sB hS rfl fun hS => qI hS rfl Tryd.call65 (xc hG K ((M3.length : Int) == (0 : Int)) (3 : Int) (hS.st.part 0 [0, 1, 2, 3, 4, 5] (by kernel_rfl)) (qt hM) (fun  w hM  hst => qB hS.ev hst.appF rfl fun hS => ?_) (fun v w hk hst => xo (qD (zR (qD (zR (qD (zR (qD (⟨hS.ev.defs, hpan _ _ hk hst.appF.frame⟩))))))))))
      replace hS : Ss _ _ _ H [Nc, Nd, M6, Nt, M7, Nf] F _ _ := hS
      refine zo <| qe ?_
      obtain ⟨Ny, hM⟩ := qK hM
      refine q9 (vals := [some (.slice Na M3.length Ng), some (.slice Na M3.length Ng), some (.int .i64 (M3.length : Int)), some (.int .i64 (qg ((M3.length : Int) - (1 : Int)))), some (xE Na (Int.toNat (qg ((M3.length : Int) - (1 : Int))) * 1)), some (.int .i64 (rd M3 (qg ((M3.length : Int) - (1 : Int))))), some (qL Nb 0), none, none, none, none]) hS xF rfl ?_
      intro l w ho hcl hA hst
      refine jf hA hst ho hcl xu xG 7 [0, 1, 2, 3, 4, 5, 6] rfl rfl rfl rfl rfl (by exact ⟨nM rfl, nM rfl, nQ rfl (by exact qX (yc rfl Tryd.runUnderlying66) rfl), nB rfl, nQ rfl (by exact qX (yu rfl rfl Tryd.runUnderlying66 Tryd.sizeOf3 (Nl.rd (i := 5) rfl) (fun _ => rfl) rfl Ny) rfl), nQ rfl (by exact qX (yG rfl (Nl.rd (i := 5) rfl) (fun _ => rfl) Ny rfl Tryd.isAgg3) rfl), nM rfl, trivial⟩) fun D l a w ho hcl hav hpre hm hE hk hA hst => ?_
      have hS := (Ss.mk hE hst).env2 (e' := [(38, qL Nb 0)]) ⟨rfl, trivial⟩
      refine qR rfl <| qI hS rfl Tryd.call60 (z5 hG K (qx.mk (qG.mk (qr.mk No) M4.Reader_.text_) M4.out_ M4.limit_) (2 : Int) Nb M6 Nj Nt Nr Ns M7 Nv NE Nx (hS.st.part 3 [2, 3, 4, 0, 1, 5] (by kernel_rfl)) (qt hM) (fun NR NT NY w hM Pq hst => qB hS.ev hst.appF rfl fun hS => ?_) (fun v w hk hst => xo (qD (zR (qD (zR (qD (zR (qD (⟨hS.ev.defs, hpan _ _ hk hst.appF.frame⟩))))))))))
      replace hS : Ss _ _ _ H [M6, NY, M7, Nc, Nd, Nf] F _ _ := hS
      refine qA ?_
      replace hst := hS.st
      obtain ⟨Nn, NP⟩ : ∃ x, x = (rd M3 (qg ((M3.length : Int) - (1 : Int)))) := ⟨_, rfl⟩
      replace hM := qz NP hM
      obtain ⟨Nm, NQ⟩ : ∃ x, x = (qg ((3 : Int) + NR)) := ⟨_, rfl⟩
      replace hM := qz NQ hM
      obtain ⟨hcl, hmust, hav2, hA⟩ := dn (vals' := [some (.slice Na M3.length Ng), some (.slice Na M3.length Ng), some (.int .i64 (M3.length : Int)), some (.int .i64 (qg ((M3.length : Int) - (1 : Int)))), some (xE Na (Int.toNat (qg ((M3.length : Int) - (1 : Int))) * 1)), some (.int .i64 (rd M3 (qg ((M3.length : Int) - (1 : Int))))), some (qL Nb 0), some (.int .i64 NR), some (.int .i64 (qg ((3 : Int) + NR))), some (.int .i64 Nn), some (.int .i64 Nm)]) 7 [(6, 7)] hA hcl hav hm hpre hk rfl rfl rfl rfl rfl rfl rfl
      clear hm hav
      refine yk hA hst ho hcl hmust [0, 1, 2, 3, 4, 5, 8, 9, 10] rfl rfl rfl (by exact ⟨nM rfl, nM rfl, nQ rfl (by exact qX (yc rfl Tryd.runUnderlying66) rfl), nB rfl, nQ rfl (by exact qX (yu rfl rfl Tryd.runUnderlying66 Tryd.sizeOf3 (Nl.rd (i := 5) rfl) (fun _ => rfl) rfl Ny) rfl), nQ rfl (by exact qX (yG rfl (Nl.rd (i := 5) rfl) (fun _ => rfl) Ny rfl Tryd.isAgg3) rfl), nB rfl, nQ rfl (by exact qX (xA rfl) (congrArg (Value.int .i64) NP.symm)), nQ rfl (by exact qX (xA rfl) (congrArg (Value.int .i64) NQ.symm)), trivial⟩) fun a w hS => ?_
      replace hS := hS.env2 (e' := [(0, qL Nb 0), (1, .int .i64 M9), (2, qL Np 0), (7, .slice Na M3.length Ng), (9, .int .i64 Nn), (10, .int .i64 Nm)]) ⟨rfl, rfl, rfl, rfl, rfl, rfl, trivial⟩
      refine zx (qe ?_)
      exact Nw _ _ ⟨NT, NY, Nn, Nm, hS.to [3, 4, 0, 1, 2, 5] (by kernel_rfl) ⟨rfl, rfl, rfl, rfl, rfl, rfl, trivial⟩, Pq, hM⟩
     ·refine wp_seq ?_
      refine zM <| sM hS rfl fun hS => sB hS rfl fun hS => zF (v := Value.bool) (x0 := (NH == (17 : Int))) hS (xA rfl) rfl fun PG a w hz hS => ?_
      have hM := qz hz hM; clear hz
      refine qA <| qF hS rfl hM (fun Pg hM => ?_) (fun Pg hM => ?_)
      ·refine zM ?_
       refine sM hS rfl fun hS => qI hS rfl Tryd.call60 (z5 hG K (qx.mk (qG.mk (qr.mk No) M4.Reader_.text_) M4.out_ M4.limit_) (3 : Int) Nb M6 Nj Nt Nr Ns M7 Nv NE Nx (hS.st.part 3 [2, 3, 4, 0, 1, 5] (by kernel_rfl)) (qt hM) (fun Pt NU NZ w hM Pr hst => qB hS.ev hst.appF rfl fun hS => ?_) (fun v w hk hst => xo (zR (qD (zR (qD (zR (qD (⟨hS.ev.defs, hpan _ _ hk hst.appF.frame⟩)))))))))
       replace hS : Ss _ _ _ H [M6, NZ, M7, Nc, Nd, Nf] F _ _ := hS
       refine sB hS rfl fun hS => zF (v := Value.int .i64) (x0 := (qg ((3 : Int) + Pt))) hS (xA rfl) rfl fun NI a w hz hS => ?_
       have hM := qz hz hM; clear hz
       refine zo <| zx (qe ?_)
       exact Nw _ _ ⟨NU, NZ, (0 : Int), NI, hS.to [3, 4, 0, 1, 2, 5] (by kernel_rfl) ⟨rfl, rfl, rfl, rfl, rfl, rfl, trivial⟩, Pr, hM⟩
      ·refine zM ?_
       refine sM hS rfl fun hS => qI hS rfl Tryd.call60 (z5 hG K (qx.mk (qG.mk (qr.mk No) M4.Reader_.text_) M4.out_ M4.limit_) (7 : Int) Nb M6 Nj Nt Nr Ns M7 Nv NE Nx (hS.st.part 3 [2, 3, 4, 0, 1, 5] (by kernel_rfl)) (qt hM) (fun Pv NV N0 w hM Ps hst => qB hS.ev hst.appF rfl fun hS => ?_) (fun v w hk hst => xo (zR (qD (zR (qD (zR (qD (⟨hS.ev.defs, hpan _ _ hk hst.appF.frame⟩)))))))))
       replace hS : Ss _ _ _ H [M6, N0, M7, Nc, Nd, Nf] F _ _ := hS
       refine sB hS rfl fun hS => zF (v := Value.int .i64) (x0 := (qg ((11 : Int) + Pv))) hS (xA rfl) rfl fun NJ a w hz hS => ?_
       have hM := qz hz hM; clear hz
       refine zo <| zx (qe ?_)
       exact Nw _ _ ⟨NV, N0, (0 : Int), NJ, hS.to [3, 4, 0, 1, 2, 5] (by kernel_rfl) ⟨rfl, rfl, rfl, rfl, rfl, rfl, trivial⟩, Ps, hM⟩
   ·intro a w hI
    obtain ⟨Ni, Nu, M5, M8, hS, N6, hM⟩ := hI
    rw [qO.j2] at hM
    refine qm <| sM hS rfl fun hS => sM hS rfl fun hS => sM hS rfl fun hS => sO hS (yc rfl Tryd.runUnderlying66) rfl fun hS => sB hS rfl fun hS => sB hS rfl fun hS => qI hS rfl Tryd.call65 (xc hG K (decide (M8 > (qg (M9 - (M3.length : Int))))) (3 : Int) (hS.st.part 0 [0, 1, 2, 3, 4, 5] (by kernel_rfl)) (qt hM) (fun  w hM  hst => qB hS.ev hst.appF rfl fun hS => ?_) (fun v w hk hst => xo (qD (zR (qD (zR (qD (⟨hS.ev.defs, hpan _ _ hk hst.appF.frame⟩))))))))
    replace hS : Ss _ _ _ H [Nc, Nd, M6, Nu, M7, Nf] F _ _ := hS
    refine qA <| qm <| sM hS rfl fun hS => sM hS rfl fun hS => qA <| xQ <| zv (fun N3 a w => ∃ (NA : Option Addr) (NC : Nat) (Nq : (List Int)) (ND : qk) (NG : Int), Ss 63 [] [(0, qL Nb 0), (1, .int .i64 M9), (2, qL Np 0), (7, .slice NA Nq.length NC), (9, .int .i64 M5), (54, .int .i64 M8), (55, .int .i64 NG)] H [Nc, Nd, M6, Nu, M7, ND] F a w ∧ (xj 3 (ci .i64) 1 NA Nq NC ND) ∧ (qO.l3 K (qO.l1 K M4 M9 Nk NF) Ni M5 M8 N3 Nq NG).wp kr kp) K ?_ ?_ ?_
    ·exact ⟨Na, Ng, M3, Nf, (0 : Int), hS.to [0, 1, 2, 3, 4, 5] (by kernel_rfl) ⟨rfl, rfl, rfl, rfl, rfl, rfl, rfl, trivial⟩, Nl, hM⟩
    ·intro a w hI; obtain ⟨_, _, _, _, _, _, _, hM⟩ := hI; exact zu hM
    ·intro N3 a w hI Pz N7
     obtain ⟨NA, NC, Nq, ND, NG, hS, NO, hM⟩ := hI
     rw [qO.l3] at hM
     refine qm <| sB hS rfl fun hS => qA <| wp_seq <| qF hS rfl hM (fun Ph hM => ?_) (fun Ph hM => ?_)
     ·refine wp_skip ?_
      refine qe <| wp_seq <| xQ <| zM <| sM hS rfl fun hS => sM hS rfl fun hS => Jv (g := (ci .i64)) ([M5] : List Int) [.int .i64 M5] hS Tryd.runUnderlying66 Tryd.sizeOf3 X.el3 rfl rfl rfl (by simp [Value.cells]) rfl rfl rfl rfl rfl fun w Px PB PD Pb hS => ?_
      obtain ⟨Pi, hM⟩ := qK hM
      refine J5 (ys := ([M5] : List Int)) 6 hS rfl rfl NO rfl (Pb.rd (i := 0) rfl) Tryd.runUnderlying66 Tryd.runUnderlying66 X.el3 (fun _ => rfl) rfl xJ Pi rfl fun Pk w Pm Pn Pp hz Pc hS => ?_
      have hM := qz hz hM; clear hz
      refine sA hS rfl fun hS => zo <| zx (qe ?_)
      refine zM <| sB hS rfl fun hS => sM hS rfl fun hS => zo <| qe ?_
      exact N7 _ _ ⟨Pm, Pn, Pk, Pp, (qg (NG + (1 : Int))), hS.to [1, 2, 3, 4, 5, 6] (by kernel_rfl) ⟨rfl, rfl, rfl, rfl, rfl, rfl, rfl, trivial⟩, Pc, hM⟩
     ·refine wp_exit ?_
      refine qE (qE (zd (zx (qe ?_))))
      exact N8 _ _ ⟨Ni, Nu, NA, NC, Nq, ND, hS.to [0, 1, 2, 3, 4, 5] (by kernel_rfl) ⟨rfl, rfl, rfl, rfl, trivial⟩, N6, NO, hM⟩
  ·refine wp_exit ?_
   refine qE (qE (zd (qe ?_)))
   refine qm <| sM hS rfl fun hS => sA hS rfl fun hS => qA <| wp_ret ?_
   exact zE (rs := [6]) hS rfl rfl (hret Na Ng M3 Nf Nh Nz _ (q8 hM) Nl NN (hS.st.pick [5, 0, 1, 2, 3, 4] (by kernel_rfl)))
theorem ut {H : xT} {F : List qk} {w : World} {R : Ending → World → Prop} {kr : ((Option qH) × (Option qH) × Int) → Prop} {kp : Value → Prop} (hG : Gl H) (K : Nat) (M3 : qx) (Nb : Nat) (M4 : qk) (M8 : Nat) (NO : qk) (Ng : Option Addr) (Nh : Nat) (M5 : qk) (Nj : xM M4 Nb ([qL M8 0, .slice Ng M3.out_.length Nh, .int .i64 M3.limit_]) 97) (Pe : xM NO M8 ([.int .i64 M3.Reader_.place_.at_, xf M3.Reader_.text_]) 118) (Nk : xj 5 (ci .u8) 1 Ng M3.out_ Nh M5)
    (hS : St w H [M4, NO, M5] F) (hm : (zc.m K M3).wp kr kp)
    (hret : ∀ (N1 : Option Addr) (Pc : Option qH) (N8 : qk) (N2 : Option Addr) (Pd : Option qH) (N9 : qk) (NL : Int) (Pa : qk) (w : World), kr (Pc, Pd, NL) → (K7 qH.Own N1 Pc N8) → (K7 qH.Own N2 Pd N9) → (xM Pa M8 ([.int .i64 NL, xf M3.Reader_.text_]) 118) → St w H [N8, N9, M4, Pa, M5] F → R (.returned (.tuple ⟨[.pointer N1, .pointer N2]⟩)) w)
    (hpan : ∀ v w, kp v → St w H [] F → R (.panicked [⟨v, false, false⟩]) w) :
    Calls Tryd.prog 64 ⟨[qL Nb 0]⟩ w R := by
 refine enter Tryd.func64 rfl Tryd.ntmps64 rfl hS fun a w hS => ?_
 have hM := hm; clear hm
 rw [zc.m] at hM
 refine qm <| sA hS rfl fun hS => sA hS rfl fun hS => qA <| qm <| sM hS rfl fun hS => qI hS rfl Tryd.call60 (z5 hG K M3 (5 : Int) Nb M4 M8 NO Ng Nh M5 Nj Pe Nk (hS.st.part 3 [0, 1, 2] (by kernel_rfl)) (qt hM) (fun PN NV N3 w hM PE hst => qB hS.ev hst.appF rfl fun hS => ?_) (fun v w hk hst => xo (qD (⟨hS.ev.defs, hpan _ _ hk hst.appF.frame⟩))))
 replace hS : Ss _ _ _ H [M4, N3, M5] F _ _ := hS
 refine sB hS rfl fun hS => sM hS rfl fun hS => qI hS rfl Tryd.call60 (z5 hG K (qx.mk (qG.mk (qr.mk NV) M3.Reader_.text_) M3.out_ M3.limit_) (5 : Int) Nb M4 M8 N3 Ng Nh M5 Nj PE Nk (hS.st.part 3 [0, 1, 2] (by kernel_rfl)) (qt hM) (fun PO NW N4 w hM PF hst => qB hS.ev hst.appF rfl fun hS => ?_) (fun v w hk hst => xo (qD (⟨hS.ev.defs, hpan _ _ hk hst.appF.frame⟩))))
 replace hS : Ss _ _ _ H [M4, N4, M5] F _ _ := hS
 refine sB hS rfl fun hS => zF (v := Value.int .i64) (x0 := (qg (PN + (257 : Int)))) hS (xA rfl) rfl fun M6 a w hz hS => ?_
 have hM := qz hz hM; clear hz
 refine zF (v := Value.int .i64) (x0 := (qg (PO + (1 : Int)))) hS (xA rfl) rfl fun Ni a w hz hS => ?_
 have hM := qz hz hM; clear hz
 refine qA <| qm <| sM hS rfl fun hS => qI hS rfl Tryd.call60 (z5 hG K (qx.mk (qG.mk (qr.mk NW) M3.Reader_.text_) M3.out_ M3.limit_) (4 : Int) Nb M4 M8 N4 Ng Nh M5 Nj PF Nk (hS.st.part 3 [0, 1, 2] (by kernel_rfl)) (qt hM) (fun PP NX NP w hM PG hst => qB hS.ev hst.appF rfl fun hS => ?_) (fun v w hk hst => xo (qD (⟨hS.ev.defs, hpan _ _ hk hst.appF.frame⟩))))
 replace hS : Ss _ _ _ H [M4, NP, M5] F _ _ := hS
 refine sB hS rfl fun hS => zF (v := Value.int .i64) (x0 := (qg (PP + (4 : Int)))) hS (xA rfl) rfl fun Nu a w hz hS => ?_
 have hM := qz hz hM; clear hz
 refine qA <| qm <| sM hS rfl fun hS => sB hS rfl fun hS => sM hS rfl fun hS => y4 2 false 22 (b := (decide (M6 > (286 : Int)))) (r := (decide (Ni > (30 : Int)))) hS rfl rfl rfl rfl rfl rfl rfl (fun hb a w hS K hK => ?_) rfl fun a w hS => ?_
 ·refine z2 hS rfl rfl rfl hb (mv rfl) rfl fun a w hS => ?_
  refine z2 hS rfl rfl rfl hb (jv rfl rfl rfl) rfl fun a w hS => ?_
  exact zo (hK _ _ (hS.up 2 rfl rfl))
 refine qI hS rfl Tryd.call65 (xc hG K ((decide (M6 > (286 : Int))) || (decide (Ni > (30 : Int)))) (3 : Int) (hS.st.part 0 [0, 1, 2] (by kernel_rfl)) (qt hM) (fun  w hM  hst => qB hS.ev hst.appF rfl fun hS => ?_) (fun v w hk hst => xo (qD (⟨hS.ev.defs, hpan _ _ hk hst.appF.frame⟩))))
 replace hS : Ss _ _ _ H [M4, NP, M5] F _ _ := hS
 refine qA <| qm <| QI ((List.replicate 19 (0 : Int)).flatMap (ci .i64)) hS Tryd.zeroValue87 rfl rfl fun w No PC Pf hS => qA <| zl (fun a w => ∃ (Nf : Int) (Ns : qk) (Na : (List Int)) (Nc : qk), Ss 64 [] [(0, qL Nb 0), (4, .int .i64 M6), (5, .int .i64 Ni), (7, qL No 0)] H [M4, Ns, M5, Nc] F a w ∧ (xM Ns M8 ([.int .i64 Nf, xf M3.Reader_.text_]) 118) ∧ (Na.length = 19) ∧ (xM Nc No (Na.flatMap (ci .i64)) 87) ∧ (zc.j2 K M3 M6 Ni Nf Na).wp kr kp) (fun PW Pi => ?_) ?_
 ·refine wp_seq ?_
  refine zM <| sO hS (GJ rfl hG.g3 (by rfl) Tryd.isAgg87 Tryd.sizeOf87) rfl fun hS => sM hS rfl fun hS => qA <| xQ <| zv (fun Pb a w => ∃ (M7 : Int) (Nq : qk) (M9 : (List Int)) (Nr : qk) (Nv : Int), Ss 64 [] [(0, qL Nb 0), (4, .int .i64 M6), (5, .int .i64 Ni), (6, .int .i64 Nu), (7, qL No 0), (27, .agg ⟨tab_inflate_order.flatMap (ci .i64)⟩), (28, .int .i64 Nv)] H [M4, Nq, M5, Nr] F a w ∧ (xM Nq M8 ([.int .i64 M7, xf M3.Reader_.text_]) 118) ∧ (M9.length = 19) ∧ (xM Nr No (M9.flatMap (ci .i64)) 87) ∧ (zc.l1 K M3 M6 Ni Nu Pb M7 M9 Nv).wp kr kp) K ?_ ?_ ?_
  ·exact ⟨NX, NP, (List.replicate 19 (0 : Int)), PC, (0 : Int), hS.to [1, 2, 3, 0] (by kernel_rfl) ⟨rfl, rfl, rfl, rfl, rfl, rfl, rfl, trivial⟩, PG, (List.length_replicate ..), Pf, hM⟩
  ·intro a w hI; obtain ⟨_, _, _, _, _, _, _, _, _, hM⟩ := hI; exact zu hM
  ·intro Pb a w hI PV NS
   obtain ⟨M7, Nq, M9, Nr, Nv, hS, NG, Nw, NH, hM⟩ := hI
   rw [zc.l1] at hM
   refine qm <| sB hS rfl fun hS => qA <| wp_seq <| qF hS rfl hM (fun Pm hM => ?_) (fun Pm hM => ?_)
   ·refine wp_skip ?_
    refine qe <| wp_seq <| xQ <| qm <| sM hS rfl fun hS => ?_
    obtain ⟨Ps, hM⟩ := qK hM
    refine sO hS (Mk rfl rfl Tryd.runUnderlying87 Tryd.isAgg3 Tryd.sizeOf3 (fun _ => rfl) Qj Ps rfl) rfl fun hS => sA hS rfl fun hS => zF (v := Value.int .i64) (x0 := (rd tab_inflate_order Nv)) hS (xA rfl) rfl fun PX a w hz hS => ?_
    have hM := qz hz hM; clear hz
    refine qA <| qm <| sM hS rfl fun hS => sM hS rfl fun hS => sB hS rfl fun hS => qA <| qF hS rfl hM (fun Pn hM => ?_) (fun Pn hM => ?_)
    ·refine zM ?_
     refine sM hS rfl fun hS => sM hS rfl fun hS => qI hS rfl Tryd.call60 (z5 hG K (qx.mk (qG.mk (qr.mk M7) M3.Reader_.text_) M3.out_ M3.limit_) (3 : Int) Nb M4 M8 Nq Ng Nh M5 Nj NG Nk (hS.st.part 3 [0, 1, 2, 3] (by kernel_rfl)) (qt hM) (fun PQ NY N5 w hM PH hst => qB hS.ev hst.appF rfl fun hS => ?_) (fun v w hk hst => xo (zR (qD (qD (zR (qD (⟨hS.ev.defs, hpan _ _ hk hst.appF.frame⟩))))))))
     replace hS : Ss _ _ _ H [M4, N5, M5, Nr] F _ _ := hS
     obtain ⟨NT, hM⟩ := qK hM
     refine sO hS (Ub rfl rfl Tryd.runUnderlying87 Tryd.sizeOf3 NT) rfl fun hS => Gx (xs := M9) (g := (ci .i64)) (pre := []) (post := []) 3 (PQ) hS rfl rfl NH rfl (by simp) rfl (fun _ => rfl) (jc Nw NT) rfl Tryd.sizeOf3 (xJ _) fun NJ w N6 hz NI hS => ?_
     have Pw : NJ.length = 19 := by rw [hz, List.length_set]; exact Nw
     have hM := qz hz hM; clear hz
     replace NI : xM N6 No (NJ.flatMap (ci .i64)) 87 := by simpa using NI
     refine zo <| zx (qe ?_)
     refine zM <| sB hS rfl fun hS => sM hS rfl fun hS => zo <| qe ?_
     exact NS _ _ ⟨NY, N5, NJ, N6, (qg (Nv + (1 : Int))), hS.to [0, 1, 2, 3] (by kernel_rfl) ⟨rfl, rfl, rfl, rfl, rfl, rfl, rfl, trivial⟩, PH, Pw, NI, hM⟩
    ·refine wp_skip ?_
     refine zx (qe ?_)
     refine zM <| sB hS rfl fun hS => sM hS rfl fun hS => zo <| qe ?_
     exact NS _ _ ⟨M7, Nq, M9, Nr, (qg (Nv + (1 : Int))), hS.to [0, 1, 2, 3] (by kernel_rfl) ⟨rfl, rfl, rfl, rfl, rfl, rfl, rfl, trivial⟩, NG, Nw, NH, hM⟩
   ·refine wp_exit ?_
    refine qE (qE (zd (qe ?_)))
    exact Pi _ _ ⟨M7, Nq, M9, Nr, hS.to [0, 1, 2, 3] (by kernel_rfl) ⟨rfl, rfl, rfl, rfl, trivial⟩, NG, Nw, NH, hM⟩
 ·intro a w hI
  obtain ⟨Nf, Ns, Na, Nc, hS, Pg, Nx, NR, hM⟩ := hI
  rw [zc.j2] at hM
  refine qm <| sO hS (YJ (xs := Na) (g := (ci .i64)) (pre := []) (post := []) 3 rfl NR rfl (by simp) rfl (xg (g := (ci .i64)) (sz := 1) (fun _ => rfl) Nx) Tryd.isAgg87 Tryd.sizeOf87) rfl fun hS => sO hS (Bh (([0, 0, 0, 0, 0, 0, 0, 0, 0, 0, 0, 0, 0, 0, 0, 0, 0, 0, 0] : List Int).flatMap (ci .i64)) Tryd.zeroValue87 Tryd.runUnderlying87 Tryd.sizeOf3 rfl (by kernel_rfl)) rfl fun hS => sO hS (GG rfl rfl Tryd.runUnderlying87 Tryd.runUnderlying3 Tryd.sizeOf3 Tryd.isAgg3 Nx rfl Tryd.eqGuardType87 rfl) rfl fun hS => qI hS rfl Tryd.call65 (xc hG K (Na == ([0, 0, 0, 0, 0, 0, 0, 0, 0, 0, 0, 0, 0, 0, 0, 0, 0, 0, 0] : List Int)) (3 : Int) (hS.st.part 0 [0, 1, 2, 3] (by kernel_rfl)) (qt hM) (fun  w hM  hst => qB hS.ev hst.appF rfl fun hS => ?_) (fun v w hk hst => xo (qD (⟨hS.ev.defs, hpan _ _ hk hst.appF.frame⟩))))
  replace hS : Ss _ _ _ H [M4, Ns, M5, Nc] F _ _ := hS
  refine qA <| qm <| sM hS rfl fun hS => sM hS rfl fun hS => sM hS rfl fun hS => sB hS rfl fun hS => sO hS (L8 rfl Tryd.runUnderlying87 Tryd.sizeOf3 Nx rfl) rfl fun hS => qI hS rfl Tryd.call83 (y8 hG K Na (some ⟨No, 0, none⟩) (19) (NR.rdF (i := 3) rfl rfl) (Nat.le_of_eq Nx) (hS.st.part 0 [0, 1, 2, 3] (by kernel_rfl)) (qt hM) (fun PU PY PD w hM PI hst => qB hS.ev hst.appF rfl fun hS => ?_) (fun v w hk hst => xo (qD (⟨hS.ev.defs, hpan _ _ hk hst.appF.frame⟩))))
  replace hS : Ss _ _ _ H [PD, M4, Ns, M5, Nc] F _ _ := hS
  obtain ⟨PR, Py, hM⟩ := Xb hM
  obtain ⟨PA, hA, Pj⟩ := PI.get Py
  obtain ⟨ND, Pz, PB, NE, hF, Ph, Px, Pk⟩ := Pj
  subst hA; subst hF
  replace hS := hS.front [0, 1, 2, 3, 4] (by kernel_rfl)
  replace hS := hS.splitF
  refine qI hS rfl Tryd.call84 (Qu hG K (qx.mk (qG.mk (qr.mk Nf) M3.Reader_.text_) M3.out_ M3.limit_) (qg (M6 + Ni)) PR Nb M4 M8 Ns Ng Nh M5 PA ND Pz PB NE Nj Pg Nk Ph Px Pk (hS.st.part 5 [2, 3, 4, 0, 1, 5] (by kernel_rfl)) (qt hM) (fun Nd Np Nl NM NZ NF w hM Nt PJ hst => qB hS.ev hst.appF rfl fun hS => ?_) (fun v w hk hst => xo (qD (⟨hS.ev.defs, hpan _ _ hk hst.appF.frame⟩))))
  replace hS : Ss _ _ _ H [NM, ND, NE, M4, NF, M5, Nc] F _ _ := hS
  refine sA hS rfl fun hS => qA <| qm <| sM hS rfl fun hS => ?_
  obtain ⟨NU, hM⟩ := qK hM
  refine sO hS (yu rfl rfl Tryd.runUnderlying66 Tryd.sizeOf3 (Nt.rd (i := 0) rfl) (fun _ => rfl) rfl NU) rfl fun hS => sO hS (yG rfl (Nt.rd (i := 0) rfl) (fun _ => rfl) NU rfl Tryd.isAgg3) rfl fun hS => sB hS rfl fun hS => qI hS rfl Tryd.call65 (xc hG K ((rd Nl (256 : Int)) == (0 : Int)) (3 : Int) (hS.st.part 0 [0, 1, 2, 3, 4, 5, 6] (by kernel_rfl)) (qt hM) (fun  w hM  hst => qB hS.ev hst.appF rfl fun hS => ?_) (fun v w hk hst => xo (qD (⟨hS.ev.defs, hpan _ _ hk hst.appF.frame⟩))))
  replace hS : Ss _ _ _ H [NM, ND, NE, M4, NF, M5, Nc] F _ _ := hS
  refine qA <| wp_seq ?_
  obtain ⟨Pt, hM⟩ := qK hM
  obtain ⟨Nm, Ny, NB, hz, Pq, Po, N0⟩ := LZ (g := (ci .i64)) (A := Nd) Tryd.prog Tryd.runUnderlying66 Tryd.sizeOf3 (fun _ => rfl) (Nt.cap (fun _ => rfl) rfl) Pt
  replace hM := qz hz hM; clear hz
  obtain ⟨Pv, hM⟩ := qK hM
  obtain ⟨Nn, Nz, NC, hz, Pr, Pp, NN⟩ := LZ (g := (ci .i64)) (A := Nd) Tryd.prog Tryd.runUnderlying66 Tryd.sizeOf3 (fun _ => rfl) (Nt.cap (fun _ => rfl) rfl) Pv
  replace hM := qz hz hM; clear hz
  refine q9 (vals := [some (.slice Nd Nl.length Np), some (.int .i64 M6), some (.slice Ny Nm.length NB), none, some (.slice Nd Nl.length Np), some (.int .i64 M6), some (.slice Nz Nn.length NC), none, none, none]) hS xF rfl ?_
  intro l w ho hcl hA hst
  refine jf hA hst ho hcl xu xG 3 [0, 1, 2, 4, 5, 6] rfl rfl rfl rfl rfl (by exact ⟨nM rfl, nM rfl, nQ rfl (by exact qX (N0 rfl Lu (DR rfl)) rfl), nM rfl, nM rfl, nQ rfl (by exact qX (NN rfl (Lb rfl) G5) rfl), trivial⟩) fun D l a w ho hcl hav hpre hm hE hk hA hst => ?_
  have hS := (Ss.mk hE hst).env2 (e' := [(58, .slice Ny Nm.length NB)]) ⟨rfl, trivial⟩
  refine qR rfl <| qI hS rfl Tryd.call83 (y8 hG K Nm Ny NB (Pq _ _ _ (Nt.rdF (i := 0) rfl)) Po (hS.st.part 0 [0, 1, 2, 3, 4, 5, 6] (by kernel_rfl)) (qt hM) (fun NA PS NQ w hM PL hst => qB hS.ev hst.appF rfl fun hS => ?_) (fun v w hk hst => xo (qD (qD (⟨hS.ev.defs, hpan _ _ hk hst.appF.frame⟩)))))
  replace hS : Ss _ _ _ H [NQ, NM, ND, NE, M4, NF, M5, Nc] F _ _ := hS
  refine qA ?_
  replace hst := hS.st
  obtain ⟨hcl, hmust, hav2, hA⟩ := dn (vals' := [some (.slice Nd Nl.length Np), some (.int .i64 M6), some (.slice Ny Nm.length NB), some (.pointer NA), some (.slice Nd Nl.length Np), some (.int .i64 M6), some (.slice Nz Nn.length NC), none, none, none]) 3 [(2, 3), (0, 2), (1, 2)] hA hcl hav hm hpre hk rfl rfl rfl rfl rfl rfl rfl
  clear hm hav
  refine jf hA hst ho hcl hav2 hmust 7 [4, 5, 6] rfl rfl rfl rfl rfl (by exact ⟨nM rfl, nM rfl, nQ rfl (by exact qX (NN rfl (Lb rfl) G5) rfl), trivial⟩) fun D l a w ho hcl hav hpre hm hE hk hA hst => ?_
  have hS := (Ss.mk hE hst).env2 (e' := [(62, .slice Nz Nn.length NC)]) ⟨rfl, trivial⟩
  refine qR rfl <| qI hS rfl Tryd.call83 (y8 hG K Nn Nz NC (Pr _ _ _ (Nt.rdF (i := 1) rfl)) Pp (hS.st.part 0 [0, 1, 2, 3, 4, 5, 6, 7] (by kernel_rfl)) (qt hM) (fun NK PT N7 w hM PM hst => qB hS.ev hst.appF rfl fun hS => ?_) (fun v w hk hst => xo (qD (qD (⟨hS.ev.defs, hpan _ _ hk hst.appF.frame⟩)))))
  replace hS : Ss _ _ _ H [N7, NQ, NM, ND, NE, M4, NF, M5, Nc] F _ _ := hS
  refine qA ?_
  replace hst := hS.st
  obtain ⟨hcl, hmust, hav2, hA⟩ := dn (vals' := [some (.slice Nd Nl.length Np), some (.int .i64 M6), some (.slice Ny Nm.length NB), some (.pointer NA), some (.slice Nd Nl.length Np), some (.int .i64 M6), some (.slice Nz Nn.length NC), some (.pointer NK), some (.pointer NA), some (.pointer NK)]) 7 [(3, 7), (6, 7), (2, 3), (4, 6), (5, 6), (0, 2), (1, 2)] hA hcl hav hm hpre hk rfl rfl rfl rfl rfl rfl rfl
  clear hm hav
  refine yk hA hst ho hcl hmust [8, 9] rfl rfl rfl (by exact ⟨nA rfl, nA rfl, trivial⟩) fun a w hS => ?_
  replace hS := hS.env2 (e' := [(2, .pointer NA), (3, .pointer NK)]) ⟨rfl, rfl, trivial⟩
  refine qe <| wp_ret ?_
  exact zE (rs := [2, 3]) hS rfl rfl (hret NA PS NQ NK PT N7 NZ NF _ (q8 hM) PL PM PJ (hS.st.pick [1, 0, 5, 6, 7] (by kernel_rfl)))
theorem uV {H : xT} {F : List qk} {w : World} {R : Ending → World → Prop} {kr : (Bool × Int × (List Int)) → Prop} {kp : Value → Prop} (hG : Gl H) (K : Nat) (M3 : qx) (Nc : Nat) (M4 : qk) (M9 : Nat) (NH : qk) (Na : Option Addr) (Nd : Nat) (M5 : qk) (M7 : xM M4 Nc ([qL M9 0, .slice Na M3.out_.length Nd, .int .i64 M3.limit_]) 97) (Pp : xM NH M9 ([.int .i64 M3.Reader_.place_.at_, xf M3.Reader_.text_]) 118) (M8 : xj 5 (ci .u8) 1 Na M3.out_ Nd M5)
    (hS : St w H [M4, NH, M5] F) (hm : (ym.m K M3).wp kr kp)
    (hret : ∀ (NE : Bool) (Nh : Int) (NB : qk) (No : Option Addr) (Np : Nat) (Nf : (List Int)) (NC : qk) (ND : qk) (w : World), kr (NE, Nh, Nf) → (xM NB M9 ([.int .i64 Nh, xf M3.Reader_.text_]) 118) → (xj 5 (ci .u8) 1 No Nf Np NC) → (xM ND Nc ([qL M9 0, .slice No Nf.length Np, .int .i64 M3.limit_]) 97) → St w H [ND, NB, NC] F → R (.returned (.bool NE)) w)
    (hpan : ∀ v w, kp v → St w H [] F → R (.panicked [⟨v, false, false⟩]) w) :
    Calls Tryd.prog 43 ⟨[qL Nc 0]⟩ w R := by
 refine enter Tryd.func43 rfl Tryd.ntmps43 rfl hS fun a w hS => ?_
 have hM := hm; clear hm
 rw [ym.m] at hM
 refine qm <| sA hS rfl fun hS => qA <| qm <| sM hS rfl fun hS => qI hS rfl Tryd.call60 (z5 hG K M3 (1 : Int) Nc M4 M9 NH Na Nd M5 M7 Pp M8 (hS.st.part 3 [0, 1, 2] (by kernel_rfl)) (qt hM) (fun PW NF N7 w hM PQ hst => qB hS.ev hst.appF rfl fun hS => ?_) (fun v w hk hst => xo (qD (⟨hS.ev.defs, hpan _ _ hk hst.appF.frame⟩))))
 replace hS : Ss _ _ _ H [M4, N7, M5] F _ _ := hS
 refine sB hS rfl fun hS => zF (v := Value.bool) (x0 := (PW == (1 : Int))) hS (xA rfl) rfl fun M6 a w hz hS => ?_
 have hM := qz hz hM; clear hz
 refine qA <| wp_seq <| qm <| sM hS rfl fun hS => qI hS rfl Tryd.call60 (z5 hG K (qx.mk (qG.mk (qr.mk NF) M3.Reader_.text_) M3.out_ M3.limit_) (2 : Int) Nc M4 M9 N7 Na Nd M5 M7 PQ M8 (hS.st.part 3 [0, 1, 2] (by kernel_rfl)) (qt hM) (fun NU Nb Ng w hM Nl hst => qB hS.ev hst.appF rfl fun hS => ?_) (fun v w hk hst => xo (qD (qD (⟨hS.ev.defs, hpan _ _ hk hst.appF.frame⟩)))))
 replace hS : Ss _ _ _ H [M4, Ng, M5] F _ _ := hS
 refine qA <| xQ <| qm <| sB hS rfl fun hS => zF (v := Value.bool) (x0 := (NU == (0 : Int))) hS (xA rfl) rfl fun P8 a w hz hS => ?_
 have hM := qz hz hM; clear hz
 refine qA <| qF hS rfl hM (fun Px hM => ?_) (fun Px hM => ?_)
 ·refine zM ?_
  refine sM hS rfl fun hS => qI hS rfl Tryd.call61 (uE hG K (qx.mk (qG.mk (qr.mk Nb) M3.Reader_.text_) M3.out_ M3.limit_) Nc M4 M9 Ng Na Nd M5 M7 Nl M8 (hS.st.part 3 [0, 1, 2] (by kernel_rfl)) (qt hM) (fun NG N8 PF PL NT N9 Pa w hM PR PS PT hst => qB hS.ev hst.appF rfl fun hS => ?_) (fun v w hk hst => xo (zR (qD (⟨hS.ev.defs, hpan _ _ hk hst.appF.frame⟩)))))
  replace hS : Ss _ _ _ H [Pa, N8, N9] F _ _ := hS
  refine zo <| zx (qe ?_)
  refine qm <| sM hS rfl fun hS => sA hS rfl fun hS => qA <| wp_ret ?_
  exact zE (rs := [2]) hS rfl rfl (hret M6 NG N8 PF PL NT N9 Pa _ (q8 hM) PR PS PT (hS.st.pick [0, 1, 2] (by kernel_rfl)))
 ·refine wp_seq ?_
  refine zM <| sB hS rfl fun hS => zF (v := Value.bool) (x0 := (NU == (1 : Int))) hS (xA rfl) rfl fun P9 a w hz hS => ?_
  have hM := qz hz hM; clear hz
  refine qA <| qF hS rfl hM (fun Py hM => ?_) (fun Py hM => ?_)
  ·refine zM ?_
   refine sM hS rfl fun hS => qI hS rfl Tryd.call63 (Xt hG K  (hS.st.part 0 [0, 1, 2] (by kernel_rfl)) (qt hM) (fun P6 Sa PO P7 Sb PP w hM PU PV hst => qB hS.ev hst.appF rfl fun hS => ?_) (fun v w hk hst => xo (zR (qD (⟨hS.ev.defs, hpan _ _ hk hst.appF.frame⟩)))))
   replace hS : Ss _ _ _ H [PO, PP, M4, Ng, M5] F _ _ := hS
   refine sO hS (ex rfl rfl) rfl fun hS => sO hS (ex rfl rfl) rfl fun hS => ?_
   obtain ⟨PX, PB, hM⟩ := Xb hM
   obtain ⟨PI, hA, Ps⟩ := PU.get PB
   obtain ⟨Pb, PG, PM, Pc, hF, Pq, Pz, Pv⟩ := Ps
   subst hA; subst hF
   replace hS := hS.front [0, 1, 2, 3, 4] (by kernel_rfl)
   replace hS := hS.splitF
   obtain ⟨PY, PC, hM⟩ := Xb hM
   obtain ⟨PJ, hA, Pt⟩ := PV.get PC
   obtain ⟨Pd, PH, PN, Pe, hF, Pr, PA, Pw⟩ := Pt
   subst hA; subst hF
   replace hS := hS.front [2, 0, 1, 3, 4, 5] (by kernel_rfl)
   replace hS := hS.splitF
   refine qI hS rfl Tryd.call62 (jy hG K (qx.mk (qG.mk (qr.mk Nb) M3.Reader_.text_) M3.out_ M3.limit_) PX PY Nc M4 M9 Ng Na Nd M5 PI Pb PG PM Pc PJ Pd PH PN Pe M7 Nl M8 Pq Pz Pv Pr PA Pw (hS.st.part 7 [4, 5, 6, 2, 3, 0, 1] (by kernel_rfl)) (qt hM) (fun Ni Nq NV N1 Nm Nr Ns w hM Pf Pg Ph hst => qB hS.ev hst.appF rfl fun hS => ?_) (fun v w hk hst => xo (zR (qD (⟨hS.ev.defs, hpan _ _ hk hst.appF.frame⟩)))))
   replace hS : Ss _ _ _ H [Pd, Pe, Pb, Pc, Ns, Nq, Nr] F _ _ := hS
   refine zo <| zx (qe ?_)
   refine qm <| sM hS rfl fun hS => sA hS rfl fun hS => qA <| wp_ret ?_
   exact zE (rs := [2]) hS rfl rfl (hret M6 Ni Nq NV N1 Nm Nr Ns _ (q8 hM) Pf Pg Ph (hS.st.pick [4, 5, 6] (by kernel_rfl)))
  ·refine wp_seq ?_
   refine zM <| sB hS rfl fun hS => zF (v := Value.bool) (x0 := (NU == (2 : Int))) hS (xA rfl) rfl fun P3 a w hz hS => ?_
   have hM := qz hz hM; clear hz
   refine qA <| qF hS rfl hM (fun NO hM => ?_) (fun NO hM => ?_)
   ·refine zM ?_
    refine sM hS rfl fun hS => sM hS rfl fun hS => qI hS rfl Tryd.call64 (ut hG K (qx.mk (qG.mk (qr.mk Nb) M3.Reader_.text_) M3.out_ M3.limit_) Nc M4 M9 Ng Na Nd M5 M7 Nl M8 (hS.st.part 3 [0, 1, 2] (by kernel_rfl)) (qt hM) (fun PZ P4 N5 P0 P5 N6 Nj Nt w hM Pi Pj Pk hst => qB hS.ev hst.appF rfl fun hS => ?_) (fun v w hk hst => xo (zR (qD (⟨hS.ev.defs, hpan _ _ hk hst.appF.frame⟩)))))
    replace hS : Ss _ _ _ H [N5, N6, M4, Nt, M5] F _ _ := hS
    refine sO hS (ex rfl rfl) rfl fun hS => sO hS (ex rfl rfl) rfl fun hS => ?_
    obtain ⟨PD, NR, hM⟩ := Xb hM
    obtain ⟨NZ, hA, NK⟩ := Pi.get NR
    obtain ⟨Nu, NW, N2, Nv, hF, NI, NP, NM⟩ := NK
    subst hA; subst hF
    replace hS := hS.front [0, 1, 2, 3, 4] (by kernel_rfl)
    replace hS := hS.splitF
    obtain ⟨PE, NS, hM⟩ := Xb hM
    obtain ⟨N0, hA, NL⟩ := Pj.get NS
    obtain ⟨Nw, NX, N3, Nx, hF, NJ, NQ, NN⟩ := NL
    subst hA; subst hF
    replace hS := hS.front [2, 0, 1, 3, 4, 5] (by kernel_rfl)
    replace hS := hS.splitF
    refine qI hS rfl Tryd.call62 (jy hG K (qx.mk (qG.mk (qr.mk Nj) M3.Reader_.text_) M3.out_ M3.limit_) PD PE Nc M4 M9 Nt Na Nd M5 NZ Nu NW N2 Nv N0 Nw NX N3 Nx M7 Pk M8 NI NP NM NJ NQ NN (hS.st.part 7 [4, 5, 6, 2, 3, 0, 1] (by kernel_rfl)) (qt hM) (fun Nk Ny NY N4 Nn Nz NA w hM Pm Pn Po hst => qB hS.ev hst.appF rfl fun hS => ?_) (fun v w hk hst => xo (zR (qD (⟨hS.ev.defs, hpan _ _ hk hst.appF.frame⟩)))))
    replace hS : Ss _ _ _ H [Nw, Nx, Nu, Nv, NA, Ny, Nz] F _ _ := hS
    refine zo <| zx (qe ?_)
    refine qm <| sM hS rfl fun hS => sA hS rfl fun hS => qA <| wp_ret ?_
    exact zE (rs := [2]) hS rfl rfl (hret M6 Nk Ny NY N4 Nn Nz NA _ (q8 hM) Pm Pn Po (hS.st.pick [4, 5, 6] (by kernel_rfl)))
   ·refine zM ?_
    refine qI hS rfl Tryd.call65 (xc hG K true (3 : Int) (hS.st.part 0 [0, 1, 2] (by kernel_rfl)) (qt hM) (fun  w hM  hst => qB hS.ev hst.appF rfl fun hS => ?_) (fun v w hk hst => xo (zR (qD (⟨hS.ev.defs, hpan _ _ hk hst.appF.frame⟩)))))
    replace hS : Ss _ _ _ H [M4, Ng, M5] F _ _ := hS
    refine zo <| zx (qe ?_)
    refine qm <| sM hS rfl fun hS => sA hS rfl fun hS => qA <| wp_ret ?_
    exact zE (rs := [2]) hS rfl rfl (hret M6 Nb Ng Na Nd M3.out_ M5 M4 _ (q8 hM) Nl M8 M7 (hS.st.pick [0, 1, 2] (by kernel_rfl)))
theorem ZJ {H : xT} {F : List qk} {w : World} {R : Ending → World → Prop} {kr : Unit → Prop} {kp : Value → Prop} (hG : Gl H) (K : Nat) (M3 : qG) (M5 : Nat) (M4 : qk) (M6 : xM M4 M5 ([.int .i64 M3.place_.at_, xf M3.text_]) 118)
    (hS : St w H [M4] F) (hm : (vK.m K M3).wp kr kp)
    (hret : ∀ (w : World), kr () → St w H [M4] F → R (.returned (.int .i64 M3.place_.at_)) w) :
    Calls Tryd.prog 44 ⟨[qL M5 0]⟩ w R := by
 refine enter Tryd.func44 rfl Tryd.ntmps44 rfl hS fun a w hS => ?_
 have hM := hm; clear hm
 rw [vK.m] at hM
 refine qm <| sA hS rfl fun hS => qA <| wp_seq <| qm <| sM hS rfl fun hS => sO hS (XV rfl rfl Tryd.runUnderlying94) rfl fun hS => qA <| XH hS rfl <| wp_skip <| qe <| qm <| sM hS rfl fun hS => sO hS (yz rfl) rfl fun hS => sO hS (xw rfl Tryd.runUnderlying118 rfl Tryd.sizeOf63 rfl) rfl fun hS => sO hS (xw rfl Tryd.runUnderlying63 rfl Tryd.sizeOf3 rfl) rfl fun hS => sO hS (x5 0 rfl M6 rfl rfl Tryd.isAgg3) rfl fun hS => sA hS rfl fun hS => qA <| wp_ret ?_
 exact zE (rs := [2]) hS rfl rfl (hret _ (q8 hM) (hS.st.pick [0] (by kernel_rfl)))
theorem Zr {H : xT} {F : List qk} {w : World} {R : Ending → World → Prop} {kr : ((List UInt8) × Int × Int) → Prop} {kp : Value → Prop} (hG : Gl H) (K : Nat) (Nz : List UInt8) (M6 : Int)
    (hS : St w H [] F) (hm : (zC.m K Nz M6).wp kr kp)
    (hret : ∀ (NH : List UInt8) (NI : Int) (NJ : Int) (w : World), kr (NH, NI, NJ) → St w H [] F → R (.returned (.tuple ⟨[xf NH, .int .i64 NI, .int .i64 NJ]⟩)) w) :
    Calls Tryd.prog 21 ⟨[xf Nz, .int .i64 M6]⟩ w R := by
 refine GW Tryd.func21 rfl Tryd.ntmps21 rfl hS fun a w hS => ?_
 have hM := hm; clear hm
 rw [zC.m] at hM
 refine qm <| QI ([xf ([] : List UInt8)]) hS Tryd.zeroValue9 rfl rfl fun w Nw NZ NQ hS => QI ([.int .i64 (0 : Int)]) hS Tryd.zeroValue3 rfl rfl fun w Nx N0 NR hS => QI ([.int .i64 (0 : Int)]) hS Tryd.zeroValue28 rfl rfl fun w Ny Nq Nu hS => qA <| wp_seq <| qm <| sM hS rfl fun hS => sB hS rfl fun hS => sM hS rfl fun hS => y4 2 false 10 (b := (decide (M6 < (0 : Int)))) (r := (decide (M6 > (1073741824 : Int)))) hS rfl rfl rfl rfl rfl rfl rfl (fun hb a w hS K hK => ?_) rfl fun a w hS => ?_
 ·refine z2 hS rfl rfl rfl hb (mv rfl) rfl fun a w hS => ?_
  refine z2 hS rfl rfl rfl hb (jv rfl rfl rfl) rfl fun a w hS => ?_
  exact zo (hK _ _ (hS.up 2 rfl rfl))
 refine qA <| qF hS rfl hM (fun Pa hM => ?_) (fun Pa hM => ?_)
 ·refine wp_seq ?_
  refine zM <| J7 2 ([xf ([] : List UInt8)]) hS rfl rfl NQ rfl rfl rfl rfl Tryd.sizeOf9 fun w Pm N2 hS => J7 1 ([.int .i64 (0 : Int)]) hS rfl rfl NR rfl rfl rfl rfl Tryd.sizeOf3 fun w Pn N3 hS => J7 0 ([.int .i64 (1 : Int)]) hS rfl rfl Nu rfl rfl rfl rfl Tryd.sizeOf28 fun w Po N4 hS => qA <| wp_ret <| zk ?_
  exact Gu hS.ev (ZW (vs := [xf ([] : List UInt8), .int .i64 (0 : Int), .int .i64 (1 : Int)]) hS.ev hS.st rfl (by exact ⟨Gk 2 rfl N2 rfl rfl Tryd.isAgg9, Gk 1 rfl N3 rfl rfl Tryd.isAgg3, Gk 0 rfl N4 rfl rfl Tryd.isAgg28, trivial⟩) (hret ([] : List UInt8) (0 : Int) (1 : Int) _ (q8 hM) (hS.st.pick [] (by kernel_rfl))))
 ·refine wp_skip ?_
  refine qe <| qm <| sO hS (Mm rfl rfl) rfl fun hS => Gt hS rfl fun a w hS => ?_
  obtain ⟨Ng, NX, hM⟩ := Dz hM
  have NY : ∀ v w a, Ng v → Ev 35 [⟨.fn (.func 41) ⟨[qL Nw 0, qL Nx 0, qL Ny 0]⟩, ⟨[]⟩⟩] [(4, qL Nw 0), (5, qL Nx 0), (6, qL Ny 0)] a → St w H [NZ, N0, Nq] F → bodyPostD Tryd.prog Tryd.f21 R (.panic [⟨v, false, false⟩]) a w := by
   intro v w a hk NF hst
   have hM := NX v hk
   rw [zC.h1] at hM
   obtain ⟨M7, Pb, hM⟩ := Xb hM
   cases GS Pb
   refine Lm NF hst Tryd.call41 Tryd.func41 rfl Tryd.ntmps41 rfl rfl rfl fun a w hS => qm <| sM hS rfl fun hS => sO hS (MJ .neq rfl rfl Tryd.runUnderlying20 rfl) rfl fun hS => qA <| Ko hS rfl <| q9 (vals := [some (.iface 92 (.agg ⟨[.int .i64 M7]⟩)), some (.agg ⟨[.int .i64 M7]⟩), some (.int .i64 M7), none, none, none]) hS xF rfl ?_
   intro l w ho hcl hA hst
   refine jf hA hst ho hcl xu xG 3 [0, 1, 2] rfl rfl rfl rfl rfl (by exact ⟨nM rfl, nQ rfl (by exact qX (Ms rfl Tryd.runUnderlying92 rfl) rfl), nQ rfl (by exact qX (LJ rfl Tryd.runUnderlying92 rfl Tryd.isAgg28 rfl) rfl), trivial⟩) fun D l a w ho hcl hav hpre hm hE hk hA hst => ?_
   have hS := (Ss.mk hE hst).env2 (e' := [(0, qL Nw 0)]) ⟨rfl, trivial⟩
   refine qR rfl <| J7 0 ([xf ([] : List UInt8)]) hS rfl rfl NQ rfl rfl rfl rfl Tryd.sizeOf9 fun w Pp N5 hS => qA ?_
   replace hst := hS.st
   obtain ⟨hcl, hmust, hav2, hA⟩ := Xy (vals' := [some (.iface 92 (.agg ⟨[.int .i64 M7]⟩)), some (.agg ⟨[.int .i64 M7]⟩), some (.int .i64 M7), some undef, none, none]) 3 [] hA hcl hav hm hpre rfl rfl rfl rfl rfl
   clear hm hav
   refine jf hA hst ho hcl hav2 hmust 4 [0, 1, 2] rfl rfl rfl rfl rfl (by exact ⟨nM rfl, nQ rfl (by exact qX (Ms rfl Tryd.runUnderlying92 rfl) rfl), nQ rfl (by exact qX (LJ rfl Tryd.runUnderlying92 rfl Tryd.isAgg28 rfl) rfl), trivial⟩) fun D l a w ho hcl hav hpre hm hE hk hA hst => ?_
   have hS := (Ss.mk hE hst).env2 (e' := [(1, qL Nx 0)]) ⟨rfl, trivial⟩
   refine qR rfl <| J7 1 ([.int .i64 (0 : Int)]) hS rfl rfl NR rfl rfl rfl rfl Tryd.sizeOf3 fun w Pq N6 hS => qA ?_
   replace hst := hS.st
   obtain ⟨hcl, hmust, hav2, hA⟩ := Xy (vals' := [some (.iface 92 (.agg ⟨[.int .i64 M7]⟩)), some (.agg ⟨[.int .i64 M7]⟩), some (.int .i64 M7), some undef, some undef, none]) 4 [(3, 4)] hA hcl hav hm hpre rfl rfl rfl rfl rfl
   clear hm hav
   refine jf hA hst ho hcl hav2 hmust 5 [0, 1, 2] rfl rfl rfl rfl rfl (by exact ⟨nM rfl, nQ rfl (by exact qX (Ms rfl Tryd.runUnderlying92 rfl) rfl), nQ rfl (by exact qX (LJ rfl Tryd.runUnderlying92 rfl Tryd.isAgg28 rfl) rfl), trivial⟩) fun D l a w ho hcl hav hpre hm hE hk hA hst => ?_
   have hS := (Ss.mk hE hst).env2 (e' := [(2, qL Ny 0), (9, .int .i64 M7)]) ⟨rfl, rfl, trivial⟩
   refine qR rfl <| J7 2 ([.int .i64 M7]) hS rfl rfl Nu rfl rfl rfl rfl Tryd.sizeOf28 fun w Pr N7 hS => qA ?_
   replace hst := hS.st
   obtain ⟨hcl, hmust, hav2, hA⟩ := Xy (vals' := [some (.iface 92 (.agg ⟨[.int .i64 M7]⟩)), some (.agg ⟨[.int .i64 M7]⟩), some (.int .i64 M7), some undef, some undef, some undef]) 5 [(0, 5), (1, 5), (2, 5), (3, 5), (4, 5)] hA hcl hav hm hpre rfl rfl rfl rfl rfl
   clear hm hav
   refine yk hA hst ho hcl hmust [] rfl rfl rfl trivial fun a w hS => ?_
   replace hS := hS.env2 (e' := []) trivial
   exact GF hS rfl (ZW (vs := [xf ([] : List UInt8), .int .i64 (0 : Int), .int .i64 M7]) NF hS.st rfl (by exact ⟨Gk 0 rfl N5 rfl rfl Tryd.isAgg9, Gk 1 rfl N6 rfl rfl Tryd.isAgg3, Gk 2 rfl N7 rfl rfl Tryd.isAgg28, trivial⟩) (hret ([] : List UInt8) (0 : Int) M7 _ (q8 hM) (hS.st.pick [] (by kernel_rfl))))
  rw [zC.j2] at hM
  refine qA <| qm <| sM hS rfl fun hS => qI hS rfl Tryd.call42 (Ug hG K Nz (hS.st.part 0 [0, 1, 2] (by kernel_rfl)) (qt hM) (fun M8 N1 w hM Pe hst => qB hS.ev hst.appF rfl fun hS => ?_))
  replace hS : Ss _ _ _ H [N1, Nq, N0, NZ] F _ _ := hS
  refine sM hS rfl fun hS => sO hS (Xw ([qL M8 0, .slice none 0 0, .int .i64 M6]) [(0, 1), (1, 1), (2, 1)] Tryd.zeroValue97 Tryd.runUnderlying97 (by intro w; simp [Tryd.sizeOf3, Tryd.sizeOf32, Tryd.sizeOf94]) rfl rfl) rfl fun hS => bx ([qL M8 0, .slice none 0 0, .int .i64 M6]) hS rfl rfl rfl fun w M5 Pc N8 hS => ?_
  obtain ⟨Pd, N9, hS⟩ := hS.nilV 5 (ci .u8) 1
  refine sA hS rfl fun hS => qA <| zl (fun a w => ∃ (M3 : Int) (Nd : qk) (Na : Option Addr) (Nb : Nat) (M4 : (List Int)) (Nn : qk) (No : qk), Ss 35 [⟨.fn (.func 41) ⟨[qL Nw 0, qL Nx 0, qL Ny 0]⟩, ⟨[]⟩⟩] [(4, qL Nw 0), (5, qL Nx 0), (6, qL Ny 0), (7, qL M5 0)] H [NZ, N0, Nq, No, Nd, Nn] F a w ∧ (xM Nd M8 ([.int .i64 M3, xf Nz]) 118) ∧ (xj 5 (ci .u8) 1 Na M4 Nb Nn) ∧ (xM No M5 ([qL M8 0, .slice Na M4.length Nb, .int .i64 M6]) 97) ∧ (zC.j4 K Nz M3 M4).wp kr Ng) (fun Pg NU => ?_) ?_
  ·refine xQ ?_
   refine zv (fun NG a w => ∃ (Nc : Int) (Nk : qk) (Nh : Option Addr) (Nj : Nat) (M9 : (List Int)) (Nl : qk) (Nm : qk), Ss 35 [⟨.fn (.func 41) ⟨[qL Nw 0, qL Nx 0, qL Ny 0]⟩, ⟨[]⟩⟩] [(4, qL Nw 0), (5, qL Nx 0), (6, qL Ny 0), (7, qL M5 0)] H [NZ, N0, Nq, Nm, Nk, Nl] F a w ∧ (xM Nk M8 ([.int .i64 Nc, xf Nz]) 118) ∧ (xj 5 (ci .u8) 1 Nh M9 Nj Nl) ∧ (xM Nm M5 ([qL M8 0, .slice Nh M9.length Nj, .int .i64 M6]) 97) ∧ (zC.l3 K Nz M6 NG Nc M9).wp kr Ng) K ?_ ?_ ?_
   ·exact ⟨(0 : Int), N1, none, 0, ([] : List Int), Pd, Pc, hS.to [5, 4, 3, 1, 2, 0] (by kernel_rfl) ⟨rfl, rfl, rfl, rfl, trivial⟩, Pe, N9, N8, hM⟩
   ·intro a w hI; obtain ⟨_, _, _, _, _, _, _, _, _, _, _, hM⟩ := hI; exact zu hM
   ·intro NG a w hI Pf NT
    obtain ⟨Nc, Nk, Nh, Nj, M9, Nl, Nm, hS, NK, NV, NL, hM⟩ := hI
    rw [zC.l3] at hM
    refine wp_seq <| qm <| sM hS rfl fun hS => qI hS rfl Tryd.call43 (uV hG K (qx.mk (qG.mk (qr.mk Nc) Nz) M9 M6) M5 Nm M8 Nk Nh Nj Nl NL NK NV (hS.st.part 3 [3, 4, 5, 0, 1, 2] (by kernel_rfl)) (qt hM) (fun Pk Ni Nr NA NB Np Ns Nt w hM NC ND NE hst => qB hS.ev hst.appF rfl fun hS => ?_) (fun v w hk hst => xo (qD (qD (qD (zR (qD (NY _ _ _ hk (hS.env2 (e' := [(4, qL Nw 0), (5, qL Nx 0), (6, qL Ny 0)]) ⟨rfl, rfl, rfl, trivial⟩).ev (hst.appF.pick [0, 1, 2] (by kernel_rfl))))))))))
    replace hS : Ss _ _ _ H [Nt, Nr, Ns, NZ, N0, Nq] F _ _ := hS
    refine sO hS (un rfl rfl) rfl fun hS => qA <| qF hS rfl hM (fun NW hM => ?_) (fun NW hM => ?_)
    ·refine wp_skip ?_
     refine qe <| xQ <| wp_skip <| zx (qe ?_)
     exact NT _ _ ⟨Ni, Nr, NA, NB, Np, Ns, Nt, hS.to [3, 4, 5, 0, 1, 2] (by kernel_rfl) ⟨rfl, rfl, rfl, rfl, trivial⟩, NC, ND, NE, hM⟩
    ·refine wp_exit ?_
     refine qE (qE (zd (qe ?_)))
     exact NU _ _ ⟨Ni, Nr, NA, NB, Np, Ns, Nt, hS.to [3, 4, 5, 0, 1, 2] (by kernel_rfl) ⟨rfl, rfl, rfl, rfl, trivial⟩, NC, ND, NE, hM⟩
  ·intro a w hI
   obtain ⟨M3, Nd, Na, Nb, M4, Nn, No, hS, NM, Nv, Nf, hM⟩ := hI
   rw [zC.j4] at hM
   refine wp_seq <| q9 (vals := [some (qL M5 0), some (qL M5 0), some (qL M5 1), some (.slice Na M4.length Nb), some (xf (M4.map v8)), some (qL M5 0), some (qL M5 0), some (qL M5 0), some (qL M8 0), none, none, none, none, none, none]) hS xF rfl ?_
   intro l w ho hcl hA hst
   refine jf hA hst ho hcl xu xG 9 [0, 1, 2, 3, 4, 5, 6, 7, 8] rfl rfl rfl rfl rfl (by exact ⟨nM rfl, nQ rfl (by exact qX (yz rfl) rfl), nQ rfl (by exact qX (xw rfl Tryd.runUnderlying97 rfl Tryd.sizeOf32 rfl) rfl), nQ rfl (by exact qX (x5 3 rfl Nf rfl rfl Tryd.isAgg32) rfl), nQ rfl (by exact qX (GV rfl Tryd.runUnderlying32 Tryd.runUnderlying5 Tryd.runUnderlying9 (Nv.rd (i := 5) rfl)) rfl), nM rfl, nQ rfl (by exact qX (yz rfl) rfl), nQ rfl (by exact qX (xw rfl Tryd.runUnderlying97 rfl Tryd.sizeOf94 rfl) rfl), nQ rfl (by exact qX (x5 3 rfl Nf rfl rfl Tryd.isAgg94) rfl), trivial⟩) fun D l a w ho hcl hav hpre hm hE hk hA hst => ?_
   have hS := (Ss.mk hE hst).env2 (e' := [(31, qL M8 0)]) ⟨rfl, trivial⟩
   refine qR rfl <| qI hS rfl Tryd.call44 (ZJ hG K (qG.mk (qr.mk M3) Nz) M8 Nd NM (hS.st.part 1 [4, 0, 1, 2, 3, 5] (by kernel_rfl)) (qt hM) (fun  w hM  hst => qB hS.ev hst.appF rfl fun hS => ?_))
   replace hS : Ss _ _ _ H [Nd, NZ, N0, Nq, No, Nn] F _ _ := hS
   refine qA ?_
   replace hst := hS.st
   obtain ⟨hcl, hmust, hav2, hA⟩ := dn (vals' := [some (qL M5 0), some (qL M5 0), some (qL M5 1), some (.slice Na M4.length Nb), some (xf (M4.map v8)), some (qL M5 0), some (qL M5 0), some (qL M5 0), some (qL M8 0), some (.int .i64 M3), some (.int .i64 (qg (M3 + (7 : Int)))), some (.int .i64 (yb .i64 (qg (M3 + (7 : Int))) (8 : Int))), none, none, none]) 9 [(8, 9), (7, 8), (6, 7), (5, 6)] hA hcl hav hm hpre hk rfl rfl rfl rfl rfl rfl rfl
   clear hm hav
   refine jf hA hst ho hcl hav2 hmust 12 [0, 1, 2, 3, 4, 10, 11] rfl rfl rfl rfl rfl (by exact ⟨nM rfl, nQ rfl (by exact qX (yz rfl) rfl), nQ rfl (by exact qX (xw rfl Tryd.runUnderlying97 rfl Tryd.sizeOf32 rfl) rfl), nQ rfl (by exact qX (x5 4 rfl Nf rfl rfl Tryd.isAgg32) rfl), nQ rfl (by exact qX (GV rfl Tryd.runUnderlying32 Tryd.runUnderlying5 Tryd.runUnderlying9 (Nv.rd (i := 5) rfl)) rfl), nB rfl, nQ rfl (by exact qX (quo rfl rfl rfl) rfl), trivial⟩) fun D l a w ho hcl hav hpre hm hE hk hA hst => ?_
   have hS := (Ss.mk hE hst).env2 (e' := [(4, qL Nw 0), (27, xf (M4.map v8))]) ⟨rfl, rfl, trivial⟩
   refine qR rfl <| J7 1 ([xf (M4.map v8)]) hS rfl rfl NQ rfl rfl rfl rfl Tryd.sizeOf9 fun w Ph NN hS => qA ?_
   replace hst := hS.st
   obtain ⟨hcl, hmust, hav2, hA⟩ := Xy (vals' := [some (qL M5 0), some (qL M5 0), some (qL M5 1), some (.slice Na M4.length Nb), some (xf (M4.map v8)), some (qL M5 0), some (qL M5 0), some (qL M5 0), some (qL M8 0), some (.int .i64 M3), some (.int .i64 (qg (M3 + (7 : Int)))), some (.int .i64 (yb .i64 (qg (M3 + (7 : Int))) (8 : Int))), some undef, none, none]) 12 [(0, 12), (1, 12), (2, 12), (3, 12), (4, 12), (9, 12), (8, 9), (7, 8), (6, 7), (5, 6)] hA hcl hav hm hpre rfl rfl rfl rfl rfl
   clear hm hav
   refine jf hA hst ho hcl hav2 hmust 13 [10, 11] rfl rfl rfl rfl rfl (by exact ⟨nB rfl, nQ rfl (by exact qX (quo rfl rfl rfl) rfl), trivial⟩) fun D l a w ho hcl hav hpre hm hE hk hA hst => ?_
   have hS := (Ss.mk hE hst).env2 (e' := [(5, qL Nx 0), (34, .int .i64 (yb .i64 (qg (M3 + (7 : Int))) (8 : Int)))]) ⟨rfl, rfl, trivial⟩
   refine qR rfl <| J7 2 ([.int .i64 (yb .i64 (qg (M3 + (7 : Int))) (8 : Int))]) hS rfl rfl NR rfl rfl rfl rfl Tryd.sizeOf3 fun w Pi NO hS => qA ?_
   replace hst := hS.st
   obtain ⟨hcl, hmust, hav2, hA⟩ := Xy (vals' := [some (qL M5 0), some (qL M5 0), some (qL M5 1), some (.slice Na M4.length Nb), some (xf (M4.map v8)), some (qL M5 0), some (qL M5 0), some (qL M5 0), some (qL M8 0), some (.int .i64 M3), some (.int .i64 (qg (M3 + (7 : Int)))), some (.int .i64 (yb .i64 (qg (M3 + (7 : Int))) (8 : Int))), some undef, some undef, none]) 13 [(0, 13), (1, 13), (2, 13), (3, 13), (4, 13), (5, 13), (6, 13), (7, 13), (8, 13), (9, 13), (10, 13), (11, 13), (12, 13)] hA hcl hav hm hpre rfl rfl rfl rfl rfl
   clear hm hav
   refine jf hA hst ho hcl hav2 hmust 14 [] rfl rfl rfl rfl rfl trivial fun D l a w ho hcl hav hpre hm hE hk hA hst => ?_
   have hS := (Ss.mk hE hst).env2 (e' := [(6, qL Ny 0)]) ⟨rfl, trivial⟩
   refine qR rfl <| J7 3 ([.int .i64 (0 : Int)]) hS rfl rfl Nu rfl rfl rfl rfl Tryd.sizeOf28 fun w Pj NP hS => qA ?_
   replace hst := hS.st
   obtain ⟨hcl, hmust, hav2, hA⟩ := Xy (vals' := [some (qL M5 0), some (qL M5 0), some (qL M5 1), some (.slice Na M4.length Nb), some (xf (M4.map v8)), some (qL M5 0), some (qL M5 0), some (qL M5 0), some (qL M8 0), some (.int .i64 M3), some (.int .i64 (qg (M3 + (7 : Int)))), some (.int .i64 (yb .i64 (qg (M3 + (7 : Int))) (8 : Int))), some undef, some undef, some undef]) 14 [(0, 14), (1, 14), (2, 14), (3, 14), (4, 14), (5, 14), (6, 14), (7, 14), (8, 14), (9, 14), (10, 14), (11, 14), (12, 14), (13, 14)] hA hcl hav hm hpre rfl rfl rfl rfl rfl
   clear hm hav
   refine yk hA hst ho hcl hmust [] rfl rfl rfl trivial fun a w hS => ?_
   replace hS := hS.env2 (e' := [(4, qL Nw 0), (5, qL Nx 0), (6, qL Ny 0)]) ⟨rfl, rfl, rfl, trivial⟩
   refine qe <| wp_ret ?_
   have NS := hS.ev
   refine Ln hS Tryd.call41 Tryd.func41 rfl Tryd.ntmps41 rfl rfl rfl fun a w hS => qm <| sM hS rfl fun hS => sO hS (MK .neq rfl Tryd.runUnderlying20 rfl) rfl fun hS => qA <| XH hS rfl <| wp_skip ?_
   exact GF hS rfl (ZW (vs := [xf (M4.map v8), .int .i64 (yb .i64 (qg (M3 + (7 : Int))) (8 : Int)), .int .i64 (0 : Int)]) NS hS.st rfl (by exact ⟨Gk 1 rfl NN rfl rfl Tryd.isAgg9, Gk 2 rfl NO rfl rfl Tryd.isAgg3, Gk 3 rfl NP rfl rfl Tryd.isAgg28, trivial⟩) (hret (M4.map v8) (yb .i64 (qg (M3 + (7 : Int))) (8 : Int)) (0 : Int) _ (q8 hM) (hS.st.pick [] (by kernel_rfl))))
theorem Z5 {H : xT} {F : List qk} {w : World} {R : Ending → World → Prop} {kr : Int → Prop} {kp : Value → Prop} (hG : Gl H) (K : Nat) (M7 : Int) (Nk : List UInt8)
    (hS : St w H [] F) (hm : (za.m K M7 Nk).wp kr kp)
    (hret : ∀ (Nq : Int) (w : World), kr Nq → St w H [] F → R (.returned (.int .u32 Nq)) w) :
    Calls Tryd.prog 25 ⟨[.int .u32 M7, xf Nk]⟩ w R := by
 refine enter Tryd.func25 rfl Tryd.ntmps25 rfl hS fun a w hS => ?_
 have hM := hm; clear hm
 rw [za.m] at hM
 refine qm <| sA hS rfl fun hS => qA <| qm <| sM hS rfl fun hS => sB hS rfl fun hS => sO hS (rem rfl rfl rfl) rfl fun hS => sM hS rfl fun hS => sO hS (shr rfl rfl rfl) rfl fun hS => sO hS (rem rfl rfl rfl) rfl fun hS => zF (v := Value.int .u32) (x0 := (vV (xH .u32 M7 (65535 : Int)) (65521 : Int))) hS (xA rfl) rfl fun NA a w hz hS => ?_
 have hM := qz hz hM; clear hz
 refine zF (v := Value.int .u32) (x0 := (vV (xb .u32 M7 (16 : Int)) (65521 : Int))) hS (xA rfl) rfl fun NB a w hz hS => ?_
 have hM := qz hz hM; clear hz
 refine qA <| zl (fun a w => ∃ (Nf : Int) (Ng : Int), Ss 46 [] [(5, .int .u32 Nf), (6, .int .u32 Ng)] H [] F a w ∧ (za.j4 K Nf Ng).wp kr kp) (fun NG Nu => ?_) ?_
 ·refine xQ ?_
  refine zv (fun Nd a w => ∃ (M3 : List UInt8) (M9 : Int) (Nb : Int), Ss 46 [] [(1, xf M3), (5, .int .u32 M9), (6, .int .u32 Nb)] H [] F a w ∧ (za.l1 K Nd M3 M9 Nb).wp kr kp) K ?_ ?_ ?_
  ·exact ⟨Nk, NA, NB, hS.to [] (by kernel_rfl) ⟨rfl, rfl, rfl, trivial⟩, hM⟩
  ·intro a w hI; obtain ⟨_, _, _, _, hM⟩ := hI; exact zu hM
  ·intro Nd a w hI NF Nt
   obtain ⟨M3, M9, Nb, hS, hM⟩ := hI
   rw [za.l1] at hM
   refine wp_seq <| qm <| sM hS rfl fun hS => sO hS (uY rfl Tryd.runUnderlying9) rfl fun hS => sB hS rfl fun hS => qA <| qF hS rfl hM (fun Nv hM => ?_) (fun Nv hM => ?_)
   ·refine wp_skip ?_
    refine qe <| xQ <| qm <| sM hS rfl fun hS => sO hS (uY rfl Tryd.runUnderlying9) rfl fun hS => sO hS (Us rfl rfl) rfl fun hS => zF (v := Value.int .i64) (x0 := (if (M3.length : Int) < (5000 : Int) then (M3.length : Int) else (5000 : Int))) hS (xA rfl) rfl fun M4 a w hz hS => ?_
    have hM := qz hz hM; clear hz
    refine qA <| zl (fun a w => ∃ (M5 : Int) (M6 : Int), Ss 46 [] [(1, xf M3), (5, .int .u32 M5), (6, .int .u32 M6), (7, .int .i64 M4)] H [] F a w ∧ (za.j3 K (za.l1 K Nd) M3 M4 M5 M6).wp kr kp) (fun NE Ns => ?_) ?_
    ·refine wp_seq ?_
     refine zM <| sM hS rfl fun hS => sM hS rfl fun hS => qA <| xQ <| zv (fun No a w => ∃ (Na : Int) (Nc : Int) (M8 : Int), Ss 46 [] [(1, xf M3), (5, .int .u32 Na), (6, .int .u32 Nc), (7, .int .i64 M4), (21, .int .i64 M4), (22, .int .i64 M8)] H [] F a w ∧ (za.l2 K (za.l1 K Nd) M3 M4 No Na Nc M8).wp kr kp) K ?_ ?_ ?_
     ·exact ⟨M9, Nb, (0 : Int), hS.to [] (by kernel_rfl) ⟨rfl, rfl, rfl, rfl, rfl, rfl, trivial⟩, hM⟩
     ·intro a w hI; obtain ⟨_, _, _, _, hM⟩ := hI; exact zu hM
     ·intro No a w hI ND Nr
      obtain ⟨Na, Nc, M8, hS, hM⟩ := hI
      rw [za.l2] at hM
      refine qm <| sB hS rfl fun hS => qA <| wp_seq <| qF hS rfl hM (fun Nw hM => ?_) (fun Nw hM => ?_)
      ·refine wp_skip ?_
       refine qe <| wp_seq <| xQ <| qm <| sM hS rfl fun hS => sA hS rfl fun hS => qA <| qm <| sM hS rfl fun hS => sM hS rfl fun hS => sM hS rfl fun hS => ?_
       obtain ⟨Nx, hM⟩ := qK hM
       refine sO hS (Up rfl rfl Tryd.runUnderlying9 Nx) rfl fun hS => sO hS (ux rfl Tryd.runUnderlying5 Tryd.runUnderlying25) rfl fun hS => sB hS rfl fun hS => zF (v := Value.int .u32) (x0 := (wr .u32 (Na + (wr .u32 ((rd M3 M8).toNat : Int))))) hS (xA rfl) rfl fun Np a w hz hS => ?_
       have hM := qz hz hM; clear hz
       refine qA <| zM <| sM hS rfl fun hS => sM hS rfl fun hS => sB hS rfl fun hS => zF (v := Value.int .u32) (x0 := (wr .u32 (Nc + Np))) hS (xA rfl) rfl fun NC a w hz hS => ?_
       have hM := qz hz hM; clear hz
       refine zo <| zx (qe ?_)
       refine zM <| sB hS rfl fun hS => sM hS rfl fun hS => zo <| qe ?_
       exact Nr _ _ ⟨Np, NC, (qg (M8 + (1 : Int))), hS.to [] (by kernel_rfl) ⟨rfl, rfl, rfl, rfl, rfl, rfl, trivial⟩, hM⟩
      ·refine wp_exit ?_
       refine qE (qE (zd (qe ?_)))
       exact Ns _ _ ⟨Na, Nc, hS.to [] (by kernel_rfl) ⟨rfl, rfl, rfl, rfl, trivial⟩, hM⟩
    ·intro a w hI
     obtain ⟨M5, M6, hS, hM⟩ := hI
     rw [za.j3] at hM
     obtain ⟨Ny, hM⟩ := qK hM
     obtain ⟨Nm, Nh⟩ : ∃ x, x = (vV M5 (65521 : Int)) := ⟨_, rfl⟩
     replace hM := qz Nh hM
     obtain ⟨Nn, Ni⟩ : ∃ x, x = (vV M6 (65521 : Int)) := ⟨_, rfl⟩
     replace hM := qz Ni hM
     obtain ⟨Nl, Nj⟩ : ∃ x, x = (sub M3 M4 (M3.length : Int)) := ⟨_, rfl⟩
     replace hM := qz Nj hM
     refine q9 (vals := [some (.int .u32 M5), some (.int .u32 (vV M5 (65521 : Int))), some (.int .u32 M6), some (.int .u32 (vV M6 (65521 : Int))), some (xf M3), some (.int .i64 M4), some (xf (sub M3 M4 (M3.length : Int))), some (.int .u32 Nm), some (.int .u32 Nn), some (xf Nl)]) hS xF rfl ?_
     intro l w ho hcl hA hst
     refine yk hA hst ho hcl xG [0, 1, 2, 3, 4, 5, 6, 7, 8, 9] rfl rfl rfl (by exact ⟨nM rfl, nQ rfl (by exact qX (rem rfl rfl rfl) rfl), nM rfl, nQ rfl (by exact qX (rem rfl rfl rfl) rfl), nM rfl, nM rfl, nQ rfl (by exact qX (Lp rfl Tryd.runUnderlying9 (Lb rfl) G5 Ny) rfl), nQ rfl (by exact qX (xA rfl) (congrArg (Value.int .u32) Nh.symm)), nQ rfl (by exact qX (xA rfl) (congrArg (Value.int .u32) Ni.symm)), nQ rfl (by exact qX (xA rfl) (congrArg (xf) Nj.symm)), trivial⟩) fun a w hS => ?_
     replace hS := hS.env2 (e' := [(1, xf Nl), (5, .int .u32 Nm), (6, .int .u32 Nn)]) ⟨rfl, rfl, rfl, trivial⟩
     refine zx (qe ?_)
     exact Nt _ _ ⟨Nl, Nm, Nn, hS.to [] (by kernel_rfl) ⟨rfl, rfl, rfl, trivial⟩, hM⟩
   ·refine wp_exit ?_
    refine qE (qE (zd (qe ?_)))
    exact Nu _ _ ⟨M9, Nb, hS.to [] (by kernel_rfl) ⟨rfl, rfl, trivial⟩, hM⟩
 ·intro a w hI
  obtain ⟨Nf, Ng, hS, hM⟩ := hI
  rw [za.j4] at hM
  refine qm <| sM hS rfl fun hS => sO hS (shl rfl rfl rfl) rfl fun hS => sM hS rfl fun hS => sB hS rfl fun hS => zF (v := Value.int .u32) (x0 := (QS .u32 (z8 .u32 Ng (16 : Int)) Nf)) hS (xA rfl) rfl fun Nz a w hz hS => ?_
  have hM := qz hz hM; clear hz
  refine qA <| wp_ret ?_
  exact zE (rs := [4]) hS rfl rfl (hret Nz _ (q8 hM) (hS.st.pick [] (by kernel_rfl)))
theorem ZE {H : xT} {F : List qk} {w : World} {R : Ending → World → Prop} {kr : Int → Prop} {kp : Value → Prop} (hG : Gl H) (K : Nat) (M3 : List UInt8)
    (hS : St w H [] F) (hm : (j0.m K M3).wp kr kp)
    (hret : ∀ (M4 : Int) (w : World), kr M4 → St w H [] F → R (.returned (.int .u32 M4)) w) :
    Calls Tryd.prog 13 ⟨[xf M3]⟩ w R := by
 refine enter Tryd.func13 rfl Tryd.ntmps13 rfl hS fun a w hS => ?_
 have hM := hm; clear hm
 rw [j0.m] at hM
 refine qm <| sA hS rfl fun hS => qA <| qm <| sM hS rfl fun hS => qI hS rfl Tryd.call25 (Z5 hG K (1 : Int) M3 (hS.st.part 0 [] (by kernel_rfl)) (qt hM) (fun M5 w hM  hst => qB hS.ev hst.appF rfl fun hS => ?_))
 replace hS : Ss _ _ _ H [] F _ _ := hS
 refine sA hS rfl fun hS => qA <| wp_ret ?_
 exact zE (rs := [2]) hS rfl rfl (hret M5 _ (q8 hM) (hS.st.pick [] (by kernel_rfl)))
end Go.TrydS

