/- Printed by a program of mine: each Go function answers what its model answers; conditions: what each theorem asks of memory. -/
import Derived.Test.YtojcnkhcdcegkaaDoorMlonjo
import Derived.Test.YtojcnkhcdcegkaaDoorChecked
set_option linter.unusedVariables false
set_option linter.unusedSimpArgs false
set_option maxRecDepth 100000
namespace Go.TrydS
open Go Go.Sl Go.Mo Go.Proofs
attribute [local irreducible] qN.wp
theorem xE : Tryd.prog.follows .mixedOrders = true := by kernel_rfl
def _root_.Go.Mo.yc.cells (x : yc) : List Value := [xf x.text_, .int .i64 x.base_]
def _root_.Go.Mo.qr.cells (x : qr) : List Value := [.int .i64 x.at_]
def _root_.Go.Mo.qH.cells (x : qH) : List Value := [.int .i64 x.place_.at_, xf x.text_]
def _root_.Go.Mo.xA.cells (x : xA) : List Value := [.int .i64 x.from_, .int .i64 x.bits_]
def _root_.Go.Mo.qM.cells (x : qM) : List Value := [.int .u8 x.Lit_, .int .i64 x.Len_, .int .i64 x.Dist_]
def _root_.Go.Mo.xT.cells (x : xT) : List Value := [.int .i64 x.symbol_, .int .i64 x.bits_, .int .u32 x.more_]
def _root_.Go.Mo.qi.cells (x : qi) : List Value := [.int .i64 x.symbol_, .int .i64 x.more_, .int .i64 x.bits_]
theorem X.el3 : El Tryd.prog 3 1 8 := ⟨_, _, Tryd.typeInfo3, rfl, rfl, rfl, rfl⟩
theorem X.el5 : El Tryd.prog 5 1 1 := ⟨_, _, Tryd.typeInfo5, rfl, rfl, rfl, rfl⟩
theorem X.el57 : El Tryd.prog 57 3 24 := ⟨_, _, Tryd.typeInfo57, rfl, rfl, rfl, rfl⟩
theorem X.el66 : El Tryd.prog 66 1 24 := ⟨_, _, Tryd.typeInfo66, rfl, rfl, rfl, rfl⟩
theorem X.el84 : El Tryd.prog 84 3 24 := ⟨_, _, Tryd.typeInfo84, rfl, rfl, rfl, rfl⟩
theorem X.el110 : El Tryd.prog 110 1 24 := ⟨_, _, Tryd.typeInfo110, rfl, rfl, rfl, rfl⟩
theorem X.el112 : El Tryd.prog 112 2 32 := ⟨_, _, Tryd.typeInfo112, rfl, rfl, rfl, rfl⟩
theorem xH : ∀ x, ∀ u ∈ (ci .i64) x, u.oneCell' = true := fun x u hu => by cases hu with | head => rfl | tail _ h => cases h
theorem u3 : ∀ x, ∀ u ∈ (ci .u8) x, u.oneCell' = true := fun x u hu => by cases hu with | head => rfl | tail _ h => cases h
theorem B9 : ∀ x, ∀ u ∈ qM.cells x, u.oneCell' = true := by
  intro x u hu
  simp only [qM.cells, List.mem_cons, List.not_mem_nil, or_false] at hu
  rcases hu with rfl | rfl | rfl <;> rfl
theorem Xj : ∀ x, ∀ u ∈ qi.cells x, u.oneCell' = true := by
  intro x u hu
  simp only [qi.cells, List.mem_cons, List.not_mem_nil, or_false] at hu
  rcases hu with rfl | rfl | rfl <;> rfl
structure Gl (H : xR) : Prop where
  g0 : ∃ T fr, H 0 = some (.cells ⟨tab_deflate_order.flatMap (ci .i64)⟩ T fr)
  g1 : ∃ T fr, H 1 = some (.cells ⟨tab_inflate_lengths.flatMap xA.cells⟩ T fr)
  g2 : ∃ T fr, H 2 = some (.cells ⟨tab_inflate_distances.flatMap xA.cells⟩ T fr)
  g3 : ∃ T fr, H 3 = some (.cells ⟨tab_inflate_order.flatMap (ci .i64)⟩ T fr)
theorem Vy {H : xR} {F : List qk} {w : World} {R : Ending → World → Prop} {kr : Unit → Prop} {kp : Value → Prop} (hG : Gl H) (K : Nat) (s6 : List UInt8)
    (hS : St w H [] F) (hm : (Yb.m K s6).wp kr kp)
    (hret : ∀ (w : World), kr () → St w H [] F → R (.returned (.agg ⟨[xf s6, .int .i64 (0 : Int)]⟩)) w) :
    Calls Tryd.prog 20 ⟨[xf s6]⟩ w R := by
 refine enter Tryd.func20 rfl Tryd.ntmps20 rfl hS fun a w hS => ?_
 have hM := hm; clear hm
 rw [Yb.m] at hM
 refine qm <| Qf ([xf ([] : List UInt8), .int .i64 (0 : Int)]) hS Tryd.zeroValue44 rfl rfl fun w b7 f8 hB9 hS => qB <| qm <| sM hS rfl fun hS => sO hS (Z9 ([xf s6, .int .i64 (0 : Int)]) [(0, 1), (1, 1)] Tryd.zeroValue44 Tryd.runUnderlying44 (by intro w; simp [Tryd.sizeOf3, Tryd.sizeOf9]) rfl rfl) rfl fun hS => Qs 0 ([xf s6, .int .i64 (0 : Int)]) ([xf s6, .int .i64 (0 : Int)]) hS rfl rfl hB9 rfl rfl Tryd.sizeOf44 (by simp [Value.oneCell']) (Nat.le_of_ble_eq_true rfl) rfl fun w LZ LY hS => qB <| wp_ret ?_
 exact jc (vs := [.agg ⟨[xf s6, .int .i64 (0 : Int)]⟩]) hS rfl (by exact ⟨UE 0 ([xf s6, .int .i64 (0 : Int)]) rfl LY rfl rfl rfl Tryd.isAgg44 Tryd.sizeOf44, trivial⟩) (hret _ (q7 hM) (hS.st.pick [] (by kernel_rfl)))
theorem Qx {H : xR} {F : List qk} {w : World} {R : Ending → World → Prop} {kr : Bool → Prop} {kp : Value → Prop} (hG : Gl H) (K : Nat) (LY : Int)
    (hS : St w H [] F) (hm : (jZ.m K LY).wp kr kp)
    (hret : ∀ (LZ : Bool) (w : World), kr LZ → St w H [] F → R (.returned (.bool LZ)) w) :
    Calls Tryd.prog 22 ⟨[.int .i64 LY]⟩ w R := by
 refine enter Tryd.func22 rfl Tryd.ntmps22 rfl hS fun a w hS => ?_
 have hM := hm; clear hm
 rw [jZ.m] at hM
 refine qm <| sA hS rfl fun hS => qB <| qm <| sM hS rfl fun hS => sB hS rfl fun hS => sM hS rfl fun hS => yS 2 true 5 (b := (decide (LY > (0 : Int)))) (r := (decide (LY ≤ (8 : Int)))) hS rfl rfl rfl rfl rfl rfl rfl (fun hb a w hS K hK => ?_) rfl fun a w hS => ?_
 ·refine z2 hS rfl rfl rfl hb (mv rfl) rfl fun a w hS => ?_
  refine z2 hS rfl rfl rfl hb (jk rfl rfl rfl) rfl fun a w hS => ?_
  exact zp (hK _ _ (hS.up 2 rfl rfl))
 refine sM hS rfl fun hS => yS 5 true 9 (b := ((decide (LY > (0 : Int))) && (decide (LY ≤ (8 : Int))))) (r := ((xD .i64 LY (qh (LY - (1 : Int)))) == (0 : Int))) hS rfl rfl rfl rfl rfl rfl rfl (fun hb a w hS K hK => ?_) rfl fun a w hS => ?_
 ·refine z2 hS rfl rfl rfl hb (mv rfl) rfl fun a w hS => ?_
  refine z2 hS rfl rfl rfl hb (mv rfl) rfl fun a w hS => z2 hS rfl rfl rfl hb (jk rfl rfl rfl) rfl fun a w hS => z2 hS rfl rfl rfl hb (jk rfl rfl rfl) rfl fun a w hS => z2 hS rfl rfl rfl hb (jk rfl rfl rfl) rfl fun a w hS => ?_
  exact zp (hK _ _ (hS.up 5 rfl rfl))
 refine zE (v := Value.bool) (x0 := (((decide (LY > (0 : Int))) && (decide (LY ≤ (8 : Int)))) && ((xD .i64 LY (qh (LY - (1 : Int)))) == (0 : Int)))) hS (xy rfl) rfl fun L0 a w hz hS => ?_
 have hM := qy hz hM; clear hz
 refine qB <| wp_ret ?_
 exact zD (rs := [2]) hS rfl rfl (hret L0 _ (q7 hM) (hS.st.pick [] (by kernel_rfl)))
theorem ZK {H : xR} {F : List qk} {w : World} {R : Ending → World → Prop} {kr : ((List UInt8) × Int × Int) → Prop} {kp : Value → Prop} (hG : Gl H) (K : Nat) (LZ : yc) (LY : Int) (L0 : Int)
    (hS : St w H [] F) (hm : (jd.m K LZ LY L0).wp kr kp)
    (hret : ∀ (L3 : List UInt8) (L1 : Int) (Me : Int) (w : World), kr (L3, L1, Me) → St w H [] F → R (.returned (.tuple ⟨[.agg ⟨[xf L3, .int .i64 L1]⟩, .int .i64 Me]⟩)) w) :
    Calls Tryd.prog 40 ⟨[.agg ⟨[xf LZ.text_, .int .i64 LZ.base_]⟩, .int .i64 LY, .int .i64 L0]⟩ w R := by
 refine enter Tryd.func40 rfl Tryd.ntmps40 rfl hS fun a w hS => ?_
 have hM := hm; clear hm
 rw [jd.m] at hM
 refine qm <| bx ([xf LZ.text_, .int .i64 LZ.base_]) hS rfl rfl rfl fun w L6 Mf L4 hS => Qf ([xf ([] : List UInt8), .int .i64 (0 : Int)]) hS Tryd.zeroValue44 rfl rfl fun w Md Mg L5 hS => sA hS rfl fun hS => qB <| wp_seq <| qm <| sM hS rfl fun hS => sB hS rfl fun hS => sM hS rfl fun hS => yS 2 false 10 (b := (decide (LY < (0 : Int)))) (r := (decide (L0 < (0 : Int)))) hS rfl rfl rfl rfl rfl rfl rfl (fun hb a w hS K hK => ?_) rfl fun a w hS => ?_
 ·refine z2 hS rfl rfl rfl hb (mv rfl) rfl fun a w hS => ?_
  refine z2 hS rfl rfl rfl hb (jk rfl rfl rfl) rfl fun a w hS => ?_
  exact zp (hK _ _ (hS.up 2 rfl rfl))
 refine qB <| qG hS rfl hM (fun Ma hM => ?_) (fun Ma hM => ?_)
 ·refine wp_seq ?_
  refine zN <| sO hS (Z9 ([xf ([] : List UInt8), .int .i64 (0 : Int)]) [(0, 1), (1, 1)] Tryd.zeroValue44 Tryd.runUnderlying44 (by intro w; simp [Tryd.sizeOf3, Tryd.sizeOf9]) rfl rfl) rfl fun hS => Qs 0 ([xf ([] : List UInt8), .int .i64 (0 : Int)]) ([xf ([] : List UInt8), .int .i64 (0 : Int)]) hS rfl rfl L5 rfl rfl Tryd.sizeOf44 (by simp [Value.oneCell']) (Nat.le_of_ble_eq_true rfl) rfl fun w Mh L7 hS => sA hS rfl fun hS => qB <| wp_ret <| zm ?_
  exact jc (vs := [.agg ⟨[xf ([] : List UInt8), .int .i64 (0 : Int)]⟩, .int .i64 (1 : Int)]) hS rfl (by exact ⟨UE 0 ([xf ([] : List UInt8), .int .i64 (0 : Int)]) rfl L7 rfl rfl rfl Tryd.isAgg44 Tryd.sizeOf44, Gv rfl, trivial⟩) (hret ([] : List UInt8) (0 : Int) (1 : Int) _ (q7 hM) (hS.st.pick [] (by kernel_rfl)))
 ·refine wp_skip ?_
  refine qe <| wp_seq <| qm <| sM hS rfl fun hS => sO hS (xv rfl Tryd.runUnderlying44 rfl Tryd.sizeOf9 rfl) rfl fun hS => sO hS (xY 1 rfl L4 rfl rfl Tryd.isAgg9) rfl fun hS => sO hS (uu rfl Tryd.runUnderlying9) rfl fun hS => sB hS rfl fun hS => sM hS rfl fun hS => yS 7 false 20 (b := (decide (LY > (LZ.text_.length : Int)))) (r := (decide (L0 > (qh ((LZ.text_.length : Int) - LY))))) hS rfl rfl rfl rfl rfl rfl rfl (fun hb a w hS K hK => ?_) rfl fun a w hS => ?_
  ·refine z2 hS rfl rfl rfl hb (mv rfl) rfl fun a w hS => ?_
   refine z2 hS rfl rfl rfl hb (xv rfl Tryd.runUnderlying44 rfl Tryd.sizeOf9 rfl) rfl fun a w hS => z2 hS rfl rfl rfl hb (xY 1 rfl L4 rfl rfl Tryd.isAgg9) rfl fun a w hS => z2 hS rfl rfl rfl hb (uu rfl Tryd.runUnderlying9) rfl fun a w hS => z2 hS rfl rfl rfl hb (mv rfl) rfl fun a w hS => z2 hS rfl rfl rfl hb (jk rfl rfl rfl) rfl fun a w hS => z2 hS rfl rfl rfl hb (jk rfl rfl rfl) rfl fun a w hS => ?_
   exact zp (hK _ _ (hS.up 7 rfl rfl))
  refine qB <| qG hS rfl hM (fun Mb hM => ?_) (fun Mb hM => ?_)
  ·refine wp_seq ?_
   refine zN <| sO hS (Z9 ([xf ([] : List UInt8), .int .i64 (0 : Int)]) [(0, 1), (1, 1)] Tryd.zeroValue44 Tryd.runUnderlying44 (by intro w; simp [Tryd.sizeOf3, Tryd.sizeOf9]) rfl rfl) rfl fun hS => Qs 0 ([xf ([] : List UInt8), .int .i64 (0 : Int)]) ([xf ([] : List UInt8), .int .i64 (0 : Int)]) hS rfl rfl L5 rfl rfl Tryd.sizeOf44 (by simp [Value.oneCell']) (Nat.le_of_ble_eq_true rfl) rfl fun w Mi L8 hS => sA hS rfl fun hS => qB <| wp_ret <| zm ?_
   exact jc (vs := [.agg ⟨[xf ([] : List UInt8), .int .i64 (0 : Int)]⟩, .int .i64 (2 : Int)]) hS rfl (by exact ⟨UE 0 ([xf ([] : List UInt8), .int .i64 (0 : Int)]) rfl L8 rfl rfl rfl Tryd.isAgg44 Tryd.sizeOf44, Gv rfl, trivial⟩) (hret ([] : List UInt8) (0 : Int) (2 : Int) _ (q7 hM) (hS.st.pick [] (by kernel_rfl)))
  ·refine wp_skip ?_
   refine qe <| wp_seq ?_
   obtain ⟨Mc, hM⟩ := qK hM
   refine za (vals := [some (qL L6 0), some (xf LZ.text_), some (.int .i64 LY), some (.int .i64 LY), some (.int .i64 L0), some (.int .i64 (qh (LY + L0))), some (xf (sub LZ.text_ LY (qh (LY + L0)))), some (qL L6 1), some (.int .i64 LZ.base_), some (.int .i64 LY), some (.int .i64 (qh (LZ.base_ + LY))), some (.agg ⟨[xf (sub LZ.text_ LY (qh (LY + L0))), .int .i64 (qh (LZ.base_ + LY))]⟩), none, none]) hS xE rfl ?_
   intro l w ho hcl hA hst
   refine y9 hA hst ho hcl xx xF 12 [0, 1, 2, 3, 4, 5, 6, 7, 8, 9, 10, 11] rfl rfl rfl rfl rfl (by exact ⟨nQ rfl (by exact qX (xv rfl Tryd.runUnderlying44 rfl Tryd.sizeOf9 rfl) rfl), nQ rfl (by exact qX (xY 1 rfl L4 rfl rfl Tryd.isAgg9) rfl), nM rfl, nM rfl, nM rfl, nB rfl, nQ rfl (by exact qX (Gk rfl Tryd.runUnderlying9 (D7 rfl) (BR rfl) Mc) rfl), nQ rfl (by exact qX (xv rfl Tryd.runUnderlying44 rfl Tryd.sizeOf3 rfl) rfl), nQ rfl (by exact qX (xY 1 rfl L4 rfl rfl Tryd.isAgg3) rfl), nM rfl, nB rfl, nQ rfl (by exact qX (Z9 ([xf (sub LZ.text_ LY (qh (LY + L0))), .int .i64 (qh (LZ.base_ + LY))]) [(0, 1), (1, 1)] Tryd.zeroValue44 Tryd.runUnderlying44 (by intro w; simp [Tryd.sizeOf3, Tryd.sizeOf9]) rfl rfl) rfl), trivial⟩) fun D l a w ho hcl hav hpre hm hE hk hA hst => ?_
   have hS := (Ss.mk hE hst).env2 (e' := [(6, qL Md 0), (41, .agg ⟨[xf (sub LZ.text_ LY (qh (LY + L0))), .int .i64 (qh (LZ.base_ + LY))]⟩)]) ⟨rfl, rfl, trivial⟩
   refine qQ rfl <| Qs 0 ([xf (sub LZ.text_ LY (qh (LY + L0))), .int .i64 (qh (LZ.base_ + LY))]) ([xf (sub LZ.text_ LY (qh (LY + L0))), .int .i64 (qh (LZ.base_ + LY))]) hS rfl rfl L5 rfl rfl Tryd.sizeOf44 (by simp [Value.oneCell']) (Nat.le_of_ble_eq_true rfl) rfl fun w Mj L9 hS => qB ?_
   replace hst := hS.st
   obtain ⟨hcl, hmust, hav2, hA⟩ := Xx (vals' := [some (qL L6 0), some (xf LZ.text_), some (.int .i64 LY), some (.int .i64 LY), some (.int .i64 L0), some (.int .i64 (qh (LY + L0))), some (xf (sub LZ.text_ LY (qh (LY + L0)))), some (qL L6 1), some (.int .i64 LZ.base_), some (.int .i64 LY), some (.int .i64 (qh (LZ.base_ + LY))), some (.agg ⟨[xf (sub LZ.text_ LY (qh (LY + L0))), .int .i64 (qh (LZ.base_ + LY))]⟩), some undef, some (.int .i64 (0 : Int))]) 12 [(0, 12), (1, 12), (2, 12), (3, 12), (4, 12), (5, 12), (6, 12), (7, 12), (8, 12), (9, 12), (10, 12), (11, 12)] hA hcl hav hm hpre rfl rfl rfl rfl rfl
   clear hm hav
   refine yk hA hst ho hcl hmust [13] rfl rfl rfl (by exact ⟨nA rfl, trivial⟩) fun a w hS => ?_
   replace hS := hS.env2 (e' := [(6, qL Md 0), (7, .int .i64 (0 : Int))]) ⟨rfl, rfl, trivial⟩
   refine qe <| wp_ret ?_
   exact jc (vs := [.agg ⟨[xf (sub LZ.text_ LY (qh (LY + L0))), .int .i64 (qh (LZ.base_ + LY))]⟩, .int .i64 (0 : Int)]) hS rfl (by exact ⟨UE 0 ([xf (sub LZ.text_ LY (qh (LY + L0))), .int .i64 (qh (LZ.base_ + LY))]) rfl L9 rfl rfl rfl Tryd.isAgg44 Tryd.sizeOf44, Gv rfl, trivial⟩) (hret (sub LZ.text_ LY (qh (LY + L0))) (qh (LZ.base_ + LY)) (0 : Int) _ (q7 hM) (hS.st.pick [] (by kernel_rfl)))
theorem ue {H : xR} {F : List qk} {w : World} {R : Ending → World → Prop} {kr : Unit → Prop} {kp : Value → Prop} (hG : Gl H) (K : Nat) (LY : Int)
    (hS : St w H [] F) (hm : (yP.m K LY).wp kr kp)
    (hret : ∀ (L0 : Nat) (L1 : qk) (w : World), kr () → (xJ L1 L0 ([.int .i64 LY]) 3) → St w H [L1] F → R (.returned (jt 45 [] [qL L0 0])) w) :
    Calls Tryd.prog 24 ⟨[.int .i64 LY, .bool true]⟩ w R := by
 refine enter Tryd.func24 rfl Tryd.ntmps24 rfl hS fun a w hS => ?_
 have hM := hm; clear hm
 rw [yP.m] at hM
 refine qm <| bx ([.int .i64 LY]) hS rfl rfl rfl fun w L3 L4 LZ hS => sA hS rfl fun hS => qB <| wp_seq <| qm <| sM hS rfl fun hS => qB <| UI hS rfl <| qm <| sO hS (Lj rfl rfl) rfl fun hS => sA hS rfl fun hS => qB <| wp_ret <| zm ?_
 exact zD (rs := [4]) hS rfl rfl (hret L3 L4 _ (q7 hM) LZ (hS.st.pick [0] (by kernel_rfl)))
theorem vG {H : xR} {F : List qk} {w : World} {R : Ending → World → Prop} {kr : Int → Prop} {kp : Value → Prop} (hG : Gl H) (K : Nat) (LY : Int) (LZ : Int) (L3 : Nat) (L0 : qk) (L1 : xJ L0 L3 ([.int .i64 LZ]) 3)
    (hS : St w H [L0] F) (hm : (x9.m K LY LZ).wp kr kp)
    (hret : ∀ (L4 : Int) (w : World), kr L4 → St w H [L0] F → R (.returned (.int .i64 L4)) w) :
    Calls Tryd.prog 45 ⟨[.int .i64 LY, qL L3 0]⟩ w R := by
 refine enter Tryd.func45 rfl Tryd.ntmps45 rfl hS fun a w hS => ?_
 have hM := hm; clear hm
 rw [x9.m] at hM
 refine qm <| sA hS rfl fun hS => qB <| qm <| sO hS (xY 0 rfl L1 rfl rfl Tryd.isAgg3) rfl fun hS => sB hS rfl fun hS => sM hS rfl fun hS => sB hS rfl fun hS => zE (v := Value.int .i64) (x0 := (qh ((qh (LZ - (1 : Int))) - LY))) hS (xy rfl) rfl fun L5 a w hz hS => ?_
 have hM := qy hz hM; clear hz
 refine qB <| wp_ret ?_
 exact zD (rs := [3]) hS rfl rfl (hret L5 _ (q7 hM) (hS.st.pick [0] (by kernel_rfl)))
theorem jF {H : xR} {F : List qk} {w : World} {R : Ending → World → Prop} {kr : (Int × Int) → Prop} {kp : Value → Prop} (hG : Gl H) (K : Nat) (L1 : yc) (L4 : Int) (LY : Int)
    (hS : St w H [] F) (hm : (zS.m K L1 L4 LY).wp kr kp)
    (hret : ∀ (Mp : Int) (Mq : Int) (w : World), kr (Mp, Mq) → St w H [] F → R (.returned (.tuple ⟨[.int .u64 Mp, .int .i64 Mq]⟩)) w) :
    Calls Tryd.prog 19 ⟨[.agg ⟨[xf L1.text_, .int .i64 L1.base_]⟩, .int .i64 L4, .int .i64 LY, .bool true]⟩ w R := by
 refine enter Tryd.func19 rfl Tryd.ntmps19 rfl hS fun a w hS => ?_
 have hM := hm; clear hm
 rw [zS.m] at hM
 refine qm <| bx ([xf L1.text_, .int .i64 L1.base_]) hS rfl rfl rfl fun w Mu Md Mf hS => sA hS rfl fun hS => sA hS rfl fun hS => qB <| wp_seq <| qm <| sM hS rfl fun hS => qF hS rfl Tryd.call22 (Qx hG K LY (hS.st.part 0 [0] (by kernel_rfl)) (qs hM) (fun Mw w hM  hst => qA hS.ev hst.appF rfl fun hS => ?_))
 replace hS : Ss _ _ _ H [Md] F _ _ := hS
 refine sO hS (un rfl rfl) rfl fun hS => qB <| qG hS rfl hM (fun Mi hM => ?_) (fun Mi hM => ?_)
 ·refine wp_seq ?_
  refine zN <| sA hS rfl fun hS => sA hS rfl fun hS => qB <| wp_ret <| zm ?_
  exact zD (rs := [8, 9]) hS rfl rfl (hret (0 : Int) (1 : Int) _ (q7 hM) (hS.st.pick [] (by kernel_rfl)))
 ·refine wp_skip ?_
  refine qe <| qm <| sO hS (ut 0 rfl Mf rfl ([xf L1.text_, .int .i64 L1.base_]) rfl rfl Tryd.isAgg44 Tryd.sizeOf44) rfl fun hS => sO hS (Lj rfl rfl) rfl fun hS => sA hS rfl fun hS => qB <| qm <| sM hS rfl fun hS => sM hS rfl fun hS => sM hS rfl fun hS => jR hS rfl rfl Tryd.call40 (ZK hG K L1 L4 LY (hS.st.part 0 [0] (by kernel_rfl)) (qs hM) (fun LZ L5 Ms w hM  hst => qA hS.ev hst.appF rfl fun hS => ?_))
  replace hS : Ss _ _ _ H [Md] F _ _ := hS
  refine sM hS rfl fun hS => sO hS (ex rfl rfl) rfl fun hS => sO hS (ex rfl rfl) rfl fun hS => Qf ([xf ([] : List UInt8), .int .i64 (0 : Int)]) hS Tryd.zeroValue44 rfl rfl fun w Mb Mv Mg hS => Qs 0 ([xf LZ, .int .i64 L5]) ([xf LZ, .int .i64 L5]) hS rfl rfl Mg rfl rfl Tryd.sizeOf44 (by simp [Value.oneCell']) (Nat.le_of_ble_eq_true rfl) rfl fun w Me L9 hS => sA hS rfl fun hS => qB <| wp_seq <| qm <| sM hS rfl fun hS => sB hS rfl fun hS => qB <| qG hS rfl hM (fun Mj hM => ?_) (fun Mj hM => ?_)
  ·refine wp_seq ?_
   refine zN <| sM hS rfl fun hS => sA hS rfl fun hS => sA hS rfl fun hS => qB <| wp_ret <| zm ?_
   exact zD (rs := [8, 9]) hS rfl rfl (hret (0 : Int) Ms _ (q7 hM) (hS.st.pick [] (by kernel_rfl)))
  ·refine wp_skip ?_
   refine qe <| qm <| sM hS rfl fun hS => sM hS rfl fun hS => qF hS rfl Tryd.call24 (ue hG K LY (hS.st.part 0 [0, 1] (by kernel_rfl)) (qs hM) (fun L7 Mc w hM Mr hst => qA hS.ev hst.appF rfl fun hS => ?_))
   replace hS : Ss _ _ _ H [Mc, Me, Md] F _ _ := hS
   refine sA hS rfl fun hS => qB <| qm <| sA hS rfl fun hS => qB <| wp_seq <| qm <| sM hS rfl fun hS => sM hS rfl fun hS => qB <| xO <| zu (fun Mn a w => ∃ (L0 : Int) (L3 : Int), Ss 52 [] [(11, qL Mb 0), (13, jt 45 [] [qL L7 0]), (14, .int .u64 L0), (34, .int .i64 LY), (35, .int .i64 L3)] H [Me, Mc] F a w ∧ (zS.l1 K LY LZ Mn L0 L3).wp kr kp) K ?_ ?_ ?_
   ·exact ⟨(0 : Int), (0 : Int), hS.to [1, 0] (by kernel_rfl) ⟨rfl, rfl, rfl, rfl, rfl, trivial⟩, hM⟩
   ·intro a w hI; obtain ⟨_, _, _, hM⟩ := hI; exact zt hM
   ·intro Mn a w hI Mt Mh
    obtain ⟨L0, L3, hS, hM⟩ := hI
    rw [zS.l1] at hM
    refine qm <| sB hS rfl fun hS => qB <| wp_seq <| qG hS rfl hM (fun Mk hM => ?_) (fun Mk hM => ?_)
    ·refine wp_skip ?_
     refine qe <| wp_seq <| xO <| qm <| sM hS rfl fun hS => sA hS rfl fun hS => qB <| za (vals := [some (.int .u64 L0), some (qL Mb 0), some (xf LZ), some (jt 45 [] [qL L7 0]), some (.int .i64 L3), none, none, none, some (.int .i64 L3), some (.int .i64 (qh ((8 : Int) * L3))), none, none, none]) hS xE rfl ?_
     intro l w ho hcl hA hst
     refine y9 hA hst ho hcl xx xF 5 [0, 1, 2, 3, 4, 8, 9] rfl rfl rfl rfl rfl (by exact ⟨nM rfl, nQ rfl (by exact qX (xv rfl Tryd.runUnderlying44 rfl Tryd.sizeOf9 rfl) rfl), nQ rfl (by exact qX (xY 0 rfl L9 rfl rfl Tryd.isAgg9) rfl), nM rfl, nM rfl, nM rfl, nB rfl, trivial⟩) fun D l a w ho hcl hav hpre hm hE hk hA hst => ?_
     have hS := (Ss.mk hE hst).env2 (e' := [(41, jt 45 [] [qL L7 0]), (42, .int .i64 L3)]) ⟨rfl, rfl, trivial⟩
     refine qQ rfl <| jR hS rfl rfl Tryd.call45 (vG hG K L3 LY L7 Mc Mr (hS.st.part 1 [1, 0] (by kernel_rfl)) (qs hM) (fun L8 w hM  hst => qA hS.ev hst.appF rfl fun hS => ?_))
     replace hS : Ss _ _ _ H [Mc, Me] F _ _ := hS
     refine qB ?_
     replace hst := hS.st
     obtain ⟨Ml, hM⟩ := qK hM
     obtain ⟨Mm, hM⟩ := qK hM
     obtain ⟨L6, Ma⟩ : ∃ x, x = (Qo .u64 L0 (z6 .u64 (wr .u64 ((rd LZ L8).toNat : Int)) (qh ((8 : Int) * L3)))) := ⟨_, rfl⟩
     replace hM := qy Ma hM
     obtain ⟨hcl, hmust, hav2, hA⟩ := dn (vals' := [some (.int .u64 L0), some (qL Mb 0), some (xf LZ), some (jt 45 [] [qL L7 0]), some (.int .i64 L3), some (.int .i64 L8), some (.int .u8 ((rd LZ L8).toNat : Int)), some (.int .u64 (wr .u64 ((rd LZ L8).toNat : Int))), some (.int .i64 L3), some (.int .i64 (qh ((8 : Int) * L3))), some (.int .u64 (z6 .u64 (wr .u64 ((rd LZ L8).toNat : Int)) (qh ((8 : Int) * L3)))), some (.int .u64 (Qo .u64 L0 (z6 .u64 (wr .u64 ((rd LZ L8).toNat : Int)) (qh ((8 : Int) * L3))))), some (.int .u64 L6)]) 5 [(3, 5), (4, 5)] hA hcl hav hm hpre hk rfl rfl rfl rfl rfl rfl rfl
     clear hm hav
     refine yk hA hst ho hcl hmust [0, 1, 2, 6, 7, 8, 9, 10, 11, 12] rfl rfl rfl (by exact ⟨nM rfl, nQ rfl (by exact qX (xv rfl Tryd.runUnderlying44 rfl Tryd.sizeOf9 rfl) rfl), nQ rfl (by exact qX (xY 1 rfl L9 rfl rfl Tryd.isAgg9) rfl), nQ rfl (by exact qX (VQ rfl rfl Tryd.runUnderlying9 Ml) rfl), nQ rfl (by exact qX (vU rfl Tryd.runUnderlying5 Tryd.runUnderlying36) rfl), nM rfl, nB rfl, nQ rfl (by exact qX (shl rfl rfl Mm) rfl), nB rfl, nQ rfl (by exact qX (xy rfl) (congrArg (Value.int .u64) Ma.symm)), trivial⟩) fun a w hS => ?_
     replace hS := hS.env2 (e' := [(11, qL Mb 0), (13, jt 45 [] [qL L7 0]), (14, .int .u64 L6), (34, .int .i64 LY), (35, .int .i64 L3)]) ⟨rfl, rfl, rfl, rfl, rfl, trivial⟩
     refine zy (qe ?_)
     refine zN <| sB hS rfl fun hS => sM hS rfl fun hS => zp <| qe ?_
     exact Mh _ _ ⟨L6, (qh (L3 + (1 : Int))), hS.to [1, 0] (by kernel_rfl) ⟨rfl, rfl, rfl, rfl, rfl, trivial⟩, hM⟩
    ·refine wp_exit ?_
     refine qE (qE (ze (qe ?_)))
     refine qm <| sM hS rfl fun hS => sA hS rfl fun hS => sA hS rfl fun hS => qB <| wp_ret ?_
     exact zD (rs := [8, 9]) hS rfl rfl (hret L0 (0 : Int) _ (q7 hM) (hS.st.pick [] (by kernel_rfl)))
theorem VF {H : xR} {F : List qk} {w : World} {R : Ending → World → Prop} {kr : Unit → Prop} {kp : Value → Prop} (hG : Gl H) (K : Nat) (LY : List UInt8)
    (hS : St w H [] F) (hm : (QM.m K LY).wp kr kp)
    (hret : ∀ (LZ : Nat) (L0 : qk) (w : World), kr () → (xJ L0 LZ ([.int .i64 (0 : Int), xf LY]) 118) → St w H [L0] F → R (.returned (qL LZ 0)) w) :
    Calls Tryd.prog 42 ⟨[xf LY]⟩ w R := by
 refine enter Tryd.func42 rfl Tryd.ntmps42 rfl hS fun a w hS => ?_
 have hM := hm; clear hm
 rw [QM.m] at hM
 refine qm <| sA hS rfl fun hS => qB <| qm <| sM hS rfl fun hS => sO hS (Z9 ([.int .i64 (0 : Int), xf LY]) [(0, 1), (1, 1)] Tryd.zeroValue118 Tryd.runUnderlying118 (by intro w; simp [Tryd.sizeOf63, Tryd.sizeOf9]) rfl rfl) rfl fun hS => bx ([.int .i64 (0 : Int), xf LY]) hS rfl rfl rfl fun w L3 L4 L1 hS => sA hS rfl fun hS => qB <| wp_ret ?_
 exact zD (rs := [2]) hS rfl rfl (hret L3 L4 _ (q7 hM) L1 (hS.st.pick [0] (by kernel_rfl)))
theorem vn {H : xR} {F : List qk} {w : World} {R : Ending → World → Prop} {kr : (Int × Int × Int) → Prop} {kp : Value → Prop} (hG : Gl H) (K : Nat) (LZ : qH) (LY : Int) (L1 : Nat) (L4 : qk) (L0 : xJ L4 L1 ([.int .i64 LZ.place_.at_, xf LZ.text_]) 118)
    (hS : St w H [L4] F) (hm : (zI.m K LZ LY).wp kr kp)
    (hret : ∀ (Mn : Int) (Mp : Int) (L6 : Int) (Ma : qk) (w : World), kr (Mn, Mp, L6) → (xJ Ma L1 ([.int .i64 L6, xf LZ.text_]) 118) → St w H [Ma] F → R (.returned (.tuple ⟨[.int .u32 Mn, .int .i64 Mp]⟩)) w) :
    Calls Tryd.prog 78 ⟨[qL L1 0, .int .i64 LY]⟩ w R := by
 refine enter Tryd.func78 rfl Tryd.ntmps78 rfl hS fun a w hS => ?_
 have hM := hm; clear hm
 rw [zI.m] at hM
 refine qm <| sA hS rfl fun hS => sA hS rfl fun hS => qB <| wp_seq <| xO <| qm <| sM hS rfl fun hS => sO hS (Xz rfl rfl Tryd.runUnderlying94) rfl fun hS => sM hS rfl fun hS => z2 hS rfl rfl rfl rfl (mv rfl) rfl fun a w hS => z2 hS rfl rfl rfl rfl (jk rfl rfl rfl) rfl fun a w hS => sO hS (pk rfl rfl rfl) rfl fun hS => sM hS rfl fun hS => yS 2 false 16 (b := (decide (LY < (0 : Int)))) (r := (decide (LY > (32 : Int)))) hS rfl rfl rfl rfl rfl rfl rfl (fun hb a w hS K hK => ?_) rfl fun a w hS => ?_
 ·refine z2 hS rfl rfl rfl hb (mv rfl) rfl fun a w hS => ?_
  refine z2 hS rfl rfl rfl hb (jk rfl rfl rfl) rfl fun a w hS => ?_
  exact zp (hK _ _ (hS.up 2 rfl rfl))
 refine zE (v := Value.bool) (x0 := ((decide (LY < (0 : Int))) || (decide (LY > (32 : Int))))) hS (xy rfl) rfl fun Mx a w hz hS => ?_
 have hM := qy hz hM; clear hz
 refine qB <| qG hS rfl hM (fun Me hM => ?_) (fun Me hM => ?_)
 ·refine wp_seq ?_
  refine zN <| sA hS rfl fun hS => sA hS rfl fun hS => qB <| wp_ret <| x3 (zm ?_)
  exact zD (rs := [4, 5]) hS rfl rfl (hret (0 : Int) (1 : Int) LZ.place_.at_ L4 _ (q7 hM) L0 (hS.st.pick [0] (by kernel_rfl)))
 ·refine wp_seq ?_
  obtain ⟨Mm, L9⟩ : ∃ x, x = (decide (LY > (qh ((qh ((8 : Int) * (LZ.text_.length : Int))) - LZ.place_.at_)))) := ⟨_, rfl⟩
  replace hM := qy L9 hM
  refine za (vals := [some (.int .i64 LY), some (qL L1 0), some (qL L1 0), some (qL L1 1), some (xf LZ.text_), some (.int .i64 (LZ.text_.length : Int)), some (.int .i64 (qh ((8 : Int) * (LZ.text_.length : Int)))), some (qL L1 0), some (qL L1 0), some (qL L1 0), some (qL L1 0), some (.int .i64 LZ.place_.at_), some (.int .i64 (qh ((qh ((8 : Int) * (LZ.text_.length : Int))) - LZ.place_.at_))), some (.bool (decide (LY > (qh ((qh ((8 : Int) * (LZ.text_.length : Int))) - LZ.place_.at_))))), some (.bool Mm)]) hS xE rfl ?_
  intro l w ho hcl hA hst
  refine yk hA hst ho hcl xF [0, 1, 2, 3, 4, 5, 6, 7, 8, 9, 10, 11, 12, 13, 14] rfl rfl rfl (by exact ⟨nM rfl, nM rfl, nQ rfl (by exact qX (yw rfl) rfl), nQ rfl (by exact qX (xv rfl Tryd.runUnderlying118 rfl Tryd.sizeOf9 rfl) rfl), nQ rfl (by exact qX (xY 0 rfl L0 rfl rfl Tryd.isAgg9) rfl), nQ rfl (by exact qX (uu rfl Tryd.runUnderlying9) rfl), nB rfl, nM rfl, nQ rfl (by exact qX (yw rfl) rfl), nQ rfl (by exact qX (xv rfl Tryd.runUnderlying118 rfl Tryd.sizeOf63 rfl) rfl), nQ rfl (by exact qX (xv rfl Tryd.runUnderlying63 rfl Tryd.sizeOf3 rfl) rfl), nQ rfl (by exact qX (xY 0 rfl L0 rfl rfl Tryd.isAgg3) rfl), nB rfl, nB rfl, nQ rfl (by exact qX (xy rfl) (congrArg (Value.bool) L9.symm)), trivial⟩) fun a w hS => ?_
  replace hS := hS.env2 (e' := [(0, qL L1 0), (1, .int .i64 LY), (20, .bool Mm)]) ⟨rfl, rfl, rfl, trivial⟩
  refine qe <| qG hS rfl hM (fun Mf hM => ?_) (fun Mf hM => ?_)
  ·refine wp_seq ?_
   refine zN <| sA hS rfl fun hS => sA hS rfl fun hS => qB <| wp_ret <| x3 (zm ?_)
   exact zD (rs := [4, 5]) hS rfl rfl (hret (0 : Int) (2 : Int) LZ.place_.at_ L4 _ (q7 hM) L0 (hS.st.pick [0] (by kernel_rfl)))
  ·refine wp_skip ?_
   refine zy (qe ?_)
   refine qm <| sA hS rfl fun hS => qB <| qm <| sM hS rfl fun hS => sO hS (yw rfl) rfl fun hS => sO hS (xv rfl Tryd.runUnderlying118 rfl Tryd.sizeOf63 rfl) rfl fun hS => sO hS (xv rfl Tryd.runUnderlying63 rfl Tryd.sizeOf3 rfl) rfl fun hS => sO hS (xY 0 rfl L0 rfl rfl Tryd.isAgg3) rfl fun hS => sO hS (quo rfl rfl rfl) rfl fun hS => zE (v := Value.int .i64) (x0 := (xX .i64 LZ.place_.at_ (8 : Int))) hS (xy rfl) rfl fun L3 a w hz hS => ?_
   have hM := qy hz hM; clear hz
   refine qB <| zj (fun a w => ∃ (L8 : Int), Ss 93 [] [(0, qL L1 0), (1, .int .i64 LY), (6, .int .u64 L8)] H [L4] F a w ∧ (zI.j2 K LZ LY L8).wp kr kp) (fun Mw Md => ?_) ?_
   ·refine wp_seq ?_
    refine zN <| sA hS rfl fun hS => qB <| xO <| zu (fun Ml a w => ∃ (L7 : Int) (L5 : Int), Ss 93 [] [(0, qL L1 0), (1, .int .i64 LY), (6, .int .u64 L7), (7, .int .i64 L3), (8, .int .i64 L5)] H [L4] F a w ∧ (zI.l1 K LZ LY L3 Ml L7 L5).wp kr kp) K ?_ ?_ ?_
    ·exact ⟨(0 : Int), (0 : Int), hS.to [0] (by kernel_rfl) ⟨rfl, rfl, rfl, rfl, rfl, trivial⟩, hM⟩
    ·intro a w hI; obtain ⟨_, _, _, hM⟩ := hI; exact zt hM
    ·intro Ml a w hI Mv Mc
     obtain ⟨L7, L5, hS, hM⟩ := hI
     rw [zI.l1] at hM
     refine wp_seq <| qm <| sM hS rfl fun hS => sM hS rfl fun hS => sB hS rfl fun hS => sB hS rfl fun hS => sM hS rfl fun hS => sO hS (yw rfl) rfl fun hS => sO hS (xv rfl Tryd.runUnderlying118 rfl Tryd.sizeOf63 rfl) rfl fun hS => sO hS (xv rfl Tryd.runUnderlying63 rfl Tryd.sizeOf3 rfl) rfl fun hS => sO hS (xY 0 rfl L0 rfl rfl Tryd.isAgg3) rfl fun hS => sM hS rfl fun hS => sB hS rfl fun hS => sB hS rfl fun hS => qB <| qG hS rfl hM (fun Mg hM => ?_) (fun Mg hM => ?_)
     ·refine wp_skip ?_
      refine qe <| wp_seq <| xO <| zN <| sM hS rfl fun hS => sM hS rfl fun hS => sO hS (yw rfl) rfl fun hS => sO hS (xv rfl Tryd.runUnderlying118 rfl Tryd.sizeOf9 rfl) rfl fun hS => sO hS (xY 0 rfl L0 rfl rfl Tryd.isAgg9) rfl fun hS => sM hS rfl fun hS => sM hS rfl fun hS => sB hS rfl fun hS => ?_
      obtain ⟨Mh, hM⟩ := qK hM
      refine sO hS (VQ rfl rfl Tryd.runUnderlying9 Mh) rfl fun hS => sO hS (vU rfl Tryd.runUnderlying5 Tryd.runUnderlying36) rfl fun hS => sM hS rfl fun hS => sB hS rfl fun hS => ?_
      obtain ⟨Mi, hM⟩ := qK hM
      refine sO hS (shl rfl rfl Mi) rfl fun hS => sB hS rfl fun hS => zE (v := Value.int .u64) (x0 := (Qo .u64 L7 (z6 .u64 (wr .u64 ((rd LZ.text_ (qh (L3 + L5))).toNat : Int)) (qh ((8 : Int) * L5))))) hS (xy rfl) rfl fun Ms a w hz hS => ?_
      have hM := qy hz hM; clear hz
      refine zp <| zy (qe ?_)
      refine zN <| sM hS rfl fun hS => sB hS rfl fun hS => zE (v := Value.int .i64) (x0 := (qh (L5 + (1 : Int)))) hS (xy rfl) rfl fun Mr a w hz hS => ?_
      have hM := qy hz hM; clear hz
      refine zp <| qe ?_
      exact Mc _ _ ⟨Ms, Mr, hS.to [0] (by kernel_rfl) ⟨rfl, rfl, rfl, rfl, rfl, trivial⟩, hM⟩
     ·refine wp_exit ?_
      refine qE (qE (ze (qe ?_)))
      exact Md _ _ ⟨L7, hS.to [0] (by kernel_rfl) ⟨rfl, rfl, rfl, trivial⟩, hM⟩
   ·intro a w hI
    obtain ⟨L8, hS, hM⟩ := hI
    rw [zI.j2] at hM
    refine qm <| sM hS rfl fun hS => sM hS rfl fun hS => sO hS (yw rfl) rfl fun hS => sO hS (xv rfl Tryd.runUnderlying118 rfl Tryd.sizeOf63 rfl) rfl fun hS => sO hS (xv rfl Tryd.runUnderlying63 rfl Tryd.sizeOf3 rfl) rfl fun hS => sO hS (xY 0 rfl L0 rfl rfl Tryd.isAgg3) rfl fun hS => sB hS rfl fun hS => ?_
    obtain ⟨Mj, hM⟩ := qK hM
    refine sO hS (shr rfl rfl Mj) rfl fun hS => zE (v := Value.int .u64) (x0 := (z9 .u64 L8 (xD .i64 LZ.place_.at_ (7 : Int)))) hS (xy rfl) rfl fun Mt a w hz hS => ?_
    have hM := qy hz hM; clear hz
    refine qB <| qm <| sM hS rfl fun hS => sO hS (yw rfl) rfl fun hS => sO hS (xv rfl Tryd.runUnderlying118 rfl Tryd.sizeOf63 rfl) rfl fun hS => sO hS (xv rfl Tryd.runUnderlying63 rfl Tryd.sizeOf3 rfl) rfl fun hS => sO hS (xY 0 rfl L0 rfl rfl Tryd.isAgg3) rfl fun hS => sM hS rfl fun hS => sB hS rfl fun hS => sO hS (yw rfl) rfl fun hS => sO hS (xv rfl Tryd.runUnderlying118 rfl Tryd.sizeOf63 rfl) rfl fun hS => sO hS (xv rfl Tryd.runUnderlying63 rfl Tryd.sizeOf3 rfl) rfl fun hS => JC 0 ([.int .i64 (qh (LZ.place_.at_ + LY)), xf LZ.text_]) hS rfl rfl L0 rfl rfl rfl rfl Tryd.sizeOf3 fun w Mq Mb hS => qB <| qm <| sM hS rfl fun hS => sM hS rfl fun hS => ?_
    obtain ⟨Mk, hM⟩ := qK hM
    refine sO hS (shl rfl rfl Mk) rfl fun hS => sB hS rfl fun hS => sB hS rfl fun hS => sO hS (vU rfl Tryd.runUnderlying36 Tryd.runUnderlying25) rfl fun hS => zE (v := Value.int .u32) (x0 := (wr .u32 (xD .u64 Mt (wr .u64 ((z6 .u64 (1 : Int) LY) - (1 : Int)))))) hS (xy rfl) rfl fun Mu a w hz hS => ?_
    have hM := qy hz hM; clear hz
    refine sA hS rfl fun hS => qB <| wp_ret ?_
    exact zD (rs := [4, 5]) hS rfl rfl (hret Mu (0 : Int) (qh (LZ.place_.at_ + LY)) Mq _ (q7 hM) Mb (hS.st.pick [0] (by kernel_rfl)))
theorem jB {H : xR} {F : List qk} {w : World} {R : Ending → World → Prop} {kr : Unit → Prop} {kp : Value → Prop} (hG : Gl H) (K : Nat) (LY : Int)
    (hS : St w H [] F) (hm : (yt.m K LY).wp kr kp)
    (hret : ∀ (w : World), kr () → St w H [] F → R (.returned (.tuple ⟨[]⟩)) w)
    (hpan : ∀ v w, kp v → St w H [] F → R (.panicked [⟨v, false, false⟩]) w) :
    Calls Tryd.prog 79 ⟨[.int .i64 LY]⟩ w R := by
 refine enter Tryd.func79 rfl Tryd.ntmps79 rfl hS fun a w hS => ?_
 have hM := hm; clear hm
 rw [yt.m] at hM
 refine qm <| sM hS rfl fun hS => sB hS rfl fun hS => qB <| qG hS rfl hM (fun LZ hM => ?_) (fun LZ hM => ?_)
 ·refine zN ?_
  refine sM hS rfl fun hS => sO hS (Z9 ([.int .i64 LY]) [(0, 1)] Tryd.zeroValue92 Tryd.runUnderlying92 (by intro w; simp [Tryd.sizeOf28]) rfl rfl) rfl fun hS => sO hS (Gu rfl Tryd.runUnderlying92 rfl) rfl fun hS => Qj hS rfl ?_
  exact ⟨hS.ev.defs, hpan _ _ (ZL hM) hS.st.frame⟩
 ·refine wp_skip ?_
  exact jE (rs := []) hS rfl rfl (hret _ (q7 hM) (hS.st.pick [] (by kernel_rfl)))
theorem z3 {H : xR} {F : List qk} {w : World} {R : Ending → World → Prop} {kr : (Int × Int) → Prop} {kp : Value → Prop} (hG : Gl H) (K : Nat) (LY : qx) (L3 : Int) (L9 : Nat) (L0 : qk) (L4 : Nat) (L6 : qk) (L8 : Option Addr) (Ma : Nat) (L1 : qk) (Mc : xJ L0 L9 ([qL L4 0, .slice L8 LY.out_.length Ma, .int .i64 LY.limit_]) 97) (Md : xJ L6 L4 ([.int .i64 LY.Reader_.place_.at_, xf LY.Reader_.text_]) 118) (Mj : xi 5 (ci .u8) 1 L8 LY.out_ Ma L1)
    (hS : St w H [L0, L6, L1] F) (hm : (zP.m K LY L3).wp kr kp)
    (hret : ∀ (Me : Int) (LZ : Int) (Mb : qk) (w : World), kr (Me, LZ) → (xJ Mb L4 ([.int .i64 LZ, xf LY.Reader_.text_]) 118) → St w H [L0, Mb, L1] F → R (.returned (.int .i64 Me)) w)
    (hpan : ∀ v w, kp v → St w H [] F → R (.panicked [⟨v, false, false⟩]) w) :
    Calls Tryd.prog 60 ⟨[qL L9 0, .int .i64 L3]⟩ w R := by
 refine enter Tryd.func60 rfl Tryd.ntmps60 rfl hS fun a w hS => ?_
 have hM := hm; clear hm
 rw [zP.m] at hM
 refine qm <| sA hS rfl fun hS => qB <| qm <| sM hS rfl fun hS => sO hS (yw rfl) rfl fun hS => sO hS (xv rfl Tryd.runUnderlying97 rfl Tryd.sizeOf94 rfl) rfl fun hS => sO hS (xY 0 rfl Mc rfl rfl Tryd.isAgg94) rfl fun hS => sM hS rfl fun hS => qF hS rfl Tryd.call78 (vn hG K LY.Reader_ L3 L4 L6 Md (hS.st.part 1 [1, 0, 2] (by kernel_rfl)) (qs hM) (fun Mh Mi L5 L7 w hM Mf hst => qA hS.ev hst.appF rfl fun hS => ?_))
 replace hS : Ss _ _ _ H [L7, L0, L1] F _ _ := hS
 refine sM hS rfl fun hS => sO hS (ex rfl rfl) rfl fun hS => sO hS (ex rfl rfl) rfl fun hS => sA hS rfl fun hS => sA hS rfl fun hS => qB <| qm <| sM hS rfl fun hS => qF hS rfl Tryd.call79 (jB hG K Mi (hS.st.part 0 [0, 1, 2] (by kernel_rfl)) (qs hM) (fun  w hM  hst => qA hS.ev hst.appF rfl fun hS => ?_) (fun v w hk hst => xo (qD (⟨hS.ev.defs, hpan _ _ hk hst.appF.frame⟩))))
 replace hS : Ss _ _ _ H [L7, L0, L1] F _ _ := hS
 refine qB <| qm <| sM hS rfl fun hS => sO hS (vU rfl Tryd.runUnderlying25 Tryd.runUnderlying3) rfl fun hS => zE (v := Value.int .i64) (x0 := (wr .i64 Mh)) hS (xy rfl) rfl fun Mg a w hz hS => ?_
 have hM := qy hz hM; clear hz
 refine qB <| wp_ret ?_
 exact zD (rs := [4]) hS rfl rfl (hret Mg L5 L7 _ (q7 hM) Mf (hS.st.pick [1, 0, 2] (by kernel_rfl)))
theorem jJ {H : xR} {F : List qk} {w : World} {R : Ending → World → Prop} {kr : Int → Prop} {kp : Value → Prop} (hG : Gl H) (K : Nat) (LY : qH) (L1 : Nat) (L3 : qk) (L0 : xJ L3 L1 ([.int .i64 LY.place_.at_, xf LY.text_]) 118)
    (hS : St w H [L3] F) (hm : (xU.m K LY).wp kr kp)
    (hret : ∀ (LZ : Int) (L4 : qk) (w : World), kr LZ → (xJ L4 L1 ([.int .i64 LZ, xf LY.text_]) 118) → St w H [L4] F → R (.returned (.tuple ⟨[]⟩)) w) :
    Calls Tryd.prog 89 ⟨[qL L1 0]⟩ w R := by
 refine enter Tryd.func89 rfl Tryd.ntmps89 rfl hS fun a w hS => ?_
 have hM := hm; clear hm
 rw [xU.m] at hM
 refine zN <| sM hS rfl fun hS => sM hS rfl fun hS => sO hS (yw rfl) rfl fun hS => sO hS (xv rfl Tryd.runUnderlying63 rfl Tryd.sizeOf3 rfl) rfl fun hS => sO hS (xY 0 rfl L0 rfl rfl Tryd.isAgg3) rfl fun hS => sB hS rfl fun hS => sB hS rfl fun hS => sO hS (yw rfl) rfl fun hS => sO hS (xv rfl Tryd.runUnderlying63 rfl Tryd.sizeOf3 rfl) rfl fun hS => JC 0 ([.int .i64 (Yx .i64 (qh (LY.place_.at_ + (7 : Int))) (7 : Int)), xf LY.text_]) hS rfl rfl L0 rfl rfl rfl rfl Tryd.sizeOf3 fun w L6 L5 hS => zp ?_
 exact jE (rs := []) hS rfl rfl (hret (Yx .i64 (qh (LY.place_.at_ + (7 : Int))) (7 : Int)) L6 _ (q7 hM) L5 (hS.st.pick [0] (by kernel_rfl)))
theorem ve {H : xR} {F : List qk} {w : World} {R : Ending → World → Prop} {kr : ((List UInt8) × Int × Int) → Prop} {kp : Value → Prop} (hG : Gl H) (K : Nat) (L0 : qH) (L1 : Int) (LZ : Nat) (L6 : qk) (L7 : xJ L6 LZ ([.int .i64 L0.place_.at_, xf L0.text_]) 118)
    (hS : St w H [L6] F) (hm : (yl.m K L0 L1).wp kr kp)
    (hret : ∀ (Mg : List UInt8) (Mh : Int) (L4 : Int) (Ma : qk) (w : World), kr (Mg, Mh, L4) → (xJ Ma LZ ([.int .i64 L4, xf L0.text_]) 118) → St w H [Ma] F → R (.returned (.tuple ⟨[xf Mg, .int .i64 Mh]⟩)) w) :
    Calls Tryd.prog 80 ⟨[qL LZ 0, .int .i64 L1]⟩ w R := by
 refine enter Tryd.func80 rfl Tryd.ntmps80 rfl hS fun a w hS => ?_
 have hM := hm; clear hm
 rw [yl.m] at hM
 refine qm <| sA hS rfl fun hS => sA hS rfl fun hS => qB <| wp_seq <| qm <| sM hS rfl fun hS => sO hS (Xz rfl rfl Tryd.runUnderlying94) rfl fun hS => sM hS rfl fun hS => z2 hS rfl rfl rfl rfl (mv rfl) rfl fun a w hS => z2 hS rfl rfl rfl rfl (jk rfl rfl rfl) rfl fun a w hS => sO hS (pk rfl rfl rfl) rfl fun hS => qB <| qG hS rfl hM (fun Mc hM => ?_) (fun Mc hM => ?_)
 ·refine wp_seq ?_
  refine zN <| sA hS rfl fun hS => sA hS rfl fun hS => qB <| wp_ret <| zm ?_
  exact zD (rs := [4, 5]) hS rfl rfl (hret ([] : List UInt8) (1 : Int) L0.place_.at_ L6 _ (q7 hM) L7 (hS.st.pick [0] (by kernel_rfl)))
 ·refine wp_skip ?_
  refine qe <| qm <| sM hS rfl fun hS => sO hS (yw rfl) rfl fun hS => sO hS (xv rfl Tryd.runUnderlying118 rfl Tryd.sizeOf63 rfl) rfl fun hS => qF hS rfl Tryd.call89 (jJ hG K L0 LZ L6 L7 (hS.st.part 1 [0] (by kernel_rfl)) (qs hM) (fun LY L9 w hM L5 hst => qA hS.ev hst.appF rfl fun hS => ?_))
  replace hS : Ss _ _ _ H [L9] F _ _ := hS
  refine qB <| wp_seq ?_
  obtain ⟨Me, hM⟩ := qK hM
  obtain ⟨L3, L8⟩ : ∃ x, x = (sub L0.text_ (xX .i64 LY (8 : Int)) (L0.text_.length : Int)) := ⟨_, rfl⟩
  replace hM := qy L8 hM
  refine za (vals := [some (qL LZ 0), some (qL LZ 0), some (qL LZ 1), some (xf L0.text_), some (qL LZ 0), some (qL LZ 0), some (qL LZ 0), some (qL LZ 0), some (.int .i64 LY), some (.int .i64 (xX .i64 LY (8 : Int))), some (xf (sub L0.text_ (xX .i64 LY (8 : Int)) (L0.text_.length : Int))), some (xf L3)]) hS xE rfl ?_
  intro l w ho hcl hA hst
  refine yk hA hst ho hcl xF [0, 1, 2, 3, 4, 5, 6, 7, 8, 9, 10, 11] rfl rfl rfl (by exact ⟨nM rfl, nQ rfl (by exact qX (yw rfl) rfl), nQ rfl (by exact qX (xv rfl Tryd.runUnderlying118 rfl Tryd.sizeOf9 rfl) rfl), nQ rfl (by exact qX (xY 0 rfl L5 rfl rfl Tryd.isAgg9) rfl), nM rfl, nQ rfl (by exact qX (yw rfl) rfl), nQ rfl (by exact qX (xv rfl Tryd.runUnderlying118 rfl Tryd.sizeOf63 rfl) rfl), nQ rfl (by exact qX (xv rfl Tryd.runUnderlying63 rfl Tryd.sizeOf3 rfl) rfl), nQ rfl (by exact qX (xY 0 rfl L5 rfl rfl Tryd.isAgg3) rfl), nQ rfl (by exact qX (quo rfl rfl rfl) rfl), nQ rfl (by exact qX (Gk rfl Tryd.runUnderlying9 (D7 rfl) D0 Me) rfl), nQ rfl (by exact qX (xy rfl) (congrArg (xf) L8.symm)), trivial⟩) fun a w hS => ?_
  replace hS := hS.env2 (e' := [(0, qL LZ 0), (1, .int .i64 L1), (6, xf L3)]) ⟨rfl, rfl, rfl, trivial⟩
  refine qe <| wp_seq <| qm <| sM hS rfl fun hS => sM hS rfl fun hS => sO hS (uu rfl Tryd.runUnderlying9) rfl fun hS => sB hS rfl fun hS => qB <| qG hS rfl hM (fun Md hM => ?_) (fun Md hM => ?_)
  ·refine wp_seq ?_
   refine zN <| sA hS rfl fun hS => sA hS rfl fun hS => qB <| wp_ret <| zm ?_
   exact zD (rs := [4, 5]) hS rfl rfl (hret ([] : List UInt8) (2 : Int) LY L9 _ (q7 hM) L5 (hS.st.pick [0] (by kernel_rfl)))
  ·refine wp_skip ?_
   refine qe <| qm <| sM hS rfl fun hS => sO hS (yw rfl) rfl fun hS => sO hS (xv rfl Tryd.runUnderlying118 rfl Tryd.sizeOf63 rfl) rfl fun hS => sO hS (xv rfl Tryd.runUnderlying63 rfl Tryd.sizeOf3 rfl) rfl fun hS => sO hS (xY 0 rfl L5 rfl rfl Tryd.isAgg3) rfl fun hS => sM hS rfl fun hS => sB hS rfl fun hS => sB hS rfl fun hS => sO hS (yw rfl) rfl fun hS => sO hS (xv rfl Tryd.runUnderlying118 rfl Tryd.sizeOf63 rfl) rfl fun hS => sO hS (xv rfl Tryd.runUnderlying63 rfl Tryd.sizeOf3 rfl) rfl fun hS => JC 0 ([.int .i64 (qh (LY + (qh ((8 : Int) * L1)))), xf L0.text_]) hS rfl rfl L5 rfl rfl rfl rfl Tryd.sizeOf3 fun w Mi Mb hS => qB <| qm <| sM hS rfl fun hS => sM hS rfl fun hS => ?_
   obtain ⟨Mf, hM⟩ := qK hM
   refine sO hS (Gk rfl Tryd.runUnderlying9 Gt (BR rfl) Mf) rfl fun hS => zE (v := xf) (x0 := (sub L3 (0 : Int) L1)) hS (xy rfl) rfl fun Mj a w hz hS => ?_
   have hM := qy hz hM; clear hz
   refine sA hS rfl fun hS => qB <| wp_ret ?_
   exact zD (rs := [4, 5]) hS rfl rfl (hret Mj (0 : Int) (qh (LY + (qh ((8 : Int) * L1)))) Mi _ (q7 hM) Mb (hS.st.pick [0] (by kernel_rfl)))
theorem xb {H : xR} {F : List qk} {w : World} {R : Ending → World → Prop} {kr : Unit → Prop} {kp : Value → Prop} (hG : Gl H) (K : Nat) (LY : Bool) (LZ : Int)
    (hS : St w H [] F) (hm : (zM.m K LY LZ).wp kr kp)
    (hret : ∀ (w : World), kr () → St w H [] F → R (.returned (.tuple ⟨[]⟩)) w)
    (hpan : ∀ v w, kp v → St w H [] F → R (.panicked [⟨v, false, false⟩]) w) :
    Calls Tryd.prog 65 ⟨[.bool LY, .int .i64 LZ]⟩ w R := by
 refine enter Tryd.func65 rfl Tryd.ntmps65 rfl hS fun a w hS => ?_
 have hM := hm; clear hm
 rw [zM.m] at hM
 refine qm <| sM hS rfl fun hS => qB <| qG hS rfl hM (fun L0 hM => ?_) (fun L0 hM => ?_)
 ·refine zN ?_
  refine sM hS rfl fun hS => sO hS (Z9 ([.int .i64 LZ]) [(0, 1)] Tryd.zeroValue92 Tryd.runUnderlying92 (by intro w; simp [Tryd.sizeOf28]) rfl rfl) rfl fun hS => sO hS (Gu rfl Tryd.runUnderlying92 rfl) rfl fun hS => Qj hS rfl ?_
  exact ⟨hS.ev.defs, hpan _ _ (ZL hM) hS.st.frame⟩
 ·refine wp_skip ?_
  exact jE (rs := []) hS rfl rfl (hret _ (q7 hM) (hS.st.pick [] (by kernel_rfl)))
theorem v6 {H : xR} {F : List qk} {w : World} {R : Ending → World → Prop} {kr : (Int × (List Int)) → Prop} {kp : Value → Prop} (hG : Gl H) (K : Nat) (L0 : qx) (L1 : Nat) (L4 : qk) (L6 : Nat) (Mh : qk) (L9 : Option Addr) (Ma : Nat) (L5 : qk) (L3 : xJ L4 L1 ([qL L6 0, .slice L9 L0.out_.length Ma, .int .i64 L0.limit_]) 97) (Mq : xJ Mh L6 ([.int .i64 L0.Reader_.place_.at_, xf L0.Reader_.text_]) 118) (Ms : xi 5 (ci .u8) 1 L9 L0.out_ Ma L5)
    (hS : St w H [L4, Mh, L5] F) (hm : (x5.m K L0).wp kr kp)
    (hret : ∀ (L8 : Int) (Mm : qk) (Mj : Option Addr) (Ml : Nat) (L7 : (List Int)) (Mn : qk) (Mp : qk) (w : World), kr (L8, L7) → (xJ Mm L6 ([.int .i64 L8, xf L0.Reader_.text_]) 118) → (xi 5 (ci .u8) 1 Mj L7 Ml Mn) → (xJ Mp L1 ([qL L6 0, .slice Mj L7.length Ml, .int .i64 L0.limit_]) 97) → St w H [Mp, Mm, Mn] F → R (.returned (.tuple ⟨[]⟩)) w)
    (hpan : ∀ v w, kp v → St w H [] F → R (.panicked [⟨v, false, false⟩]) w) :
    Calls Tryd.prog 61 ⟨[qL L1 0]⟩ w R := by
 refine enter Tryd.func61 rfl Tryd.ntmps61 rfl hS fun a w hS => ?_
 have hM := hm; clear hm
 rw [x5.m] at hM
 refine qm <| sM hS rfl fun hS => sO hS (yw rfl) rfl fun hS => sO hS (xv rfl Tryd.runUnderlying97 rfl Tryd.sizeOf94 rfl) rfl fun hS => sO hS (xY 0 rfl L3 rfl rfl Tryd.isAgg94) rfl fun hS => qF hS rfl Tryd.call80 (ve hG K L0.Reader_ (4 : Int) L6 Mh Mq (hS.st.part 1 [1, 0, 2] (by kernel_rfl)) (qs hM) (fun LY MD Mf Mb w hM MB hst => qA hS.ev hst.appF rfl fun hS => ?_))
 replace hS : Ss _ _ _ H [Mb, L4, L5] F _ _ := hS
 refine sM hS rfl fun hS => sO hS (ex rfl rfl) rfl fun hS => sO hS (ex rfl rfl) rfl fun hS => sA hS rfl fun hS => sA hS rfl fun hS => qB <| qm <| sM hS rfl fun hS => qF hS rfl Tryd.call79 (jB hG K MD (hS.st.part 0 [0, 1, 2] (by kernel_rfl)) (qs hM) (fun  w hM  hst => qA hS.ev hst.appF rfl fun hS => ?_) (fun v w hk hst => xo (qD (⟨hS.ev.defs, hpan _ _ hk hst.appF.frame⟩))))
 replace hS : Ss _ _ _ H [Mb, L4, L5] F _ _ := hS
 refine qB <| wp_seq ?_
 obtain ⟨Mu, hM⟩ := qK hM
 obtain ⟨Mv, hM⟩ := qK hM
 obtain ⟨LZ, Md⟩ : ∃ x, x = (Qo .i64 (wr .i64 ((rd LY (0 : Int)).toNat : Int)) (z6 .i64 (wr .i64 ((rd LY (1 : Int)).toNat : Int)) (8 : Int))) := ⟨_, rfl⟩
 replace hM := qy Md hM
 refine za (vals := [some (xf LY), some (.int .u8 ((rd LY (0 : Int)).toNat : Int)), some (.int .i64 (wr .i64 ((rd LY (0 : Int)).toNat : Int))), some (xf LY), some (.int .u8 ((rd LY (1 : Int)).toNat : Int)), some (.int .i64 (wr .i64 ((rd LY (1 : Int)).toNat : Int))), some (.int .i64 (z6 .i64 (wr .i64 ((rd LY (1 : Int)).toNat : Int)) (8 : Int))), some (.int .i64 (Qo .i64 (wr .i64 ((rd LY (0 : Int)).toNat : Int)) (z6 .i64 (wr .i64 ((rd LY (1 : Int)).toNat : Int)) (8 : Int)))), some (.int .i64 LZ)]) hS xE rfl ?_
 intro l w ho hcl hA hst
 refine yk hA hst ho hcl xF [0, 1, 2, 3, 4, 5, 6, 7, 8] rfl rfl rfl (by exact ⟨nM rfl, nQ rfl (by exact qX (VQ rfl rfl Tryd.runUnderlying9 Mu) rfl), nQ rfl (by exact qX (vU rfl Tryd.runUnderlying5 Tryd.runUnderlying3) rfl), nM rfl, nQ rfl (by exact qX (VQ rfl rfl Tryd.runUnderlying9 Mv) rfl), nQ rfl (by exact qX (vU rfl Tryd.runUnderlying5 Tryd.runUnderlying3) rfl), nQ rfl (by exact qX (shl rfl rfl rfl) rfl), nB rfl, nQ rfl (by exact qX (xy rfl) (congrArg (Value.int .i64) Md.symm)), trivial⟩) fun a w hS => ?_
 replace hS := hS.env2 (e' := [(0, qL L1 0), (2, xf LY), (4, .int .i64 LZ)]) ⟨rfl, rfl, rfl, trivial⟩
 refine qe <| wp_seq ?_
 obtain ⟨Mw, hM⟩ := qK hM
 obtain ⟨Mx, hM⟩ := qK hM
 refine za (vals := [some (xf LY), some (.int .u8 ((rd LY (2 : Int)).toNat : Int)), some (.int .i64 (wr .i64 ((rd LY (2 : Int)).toNat : Int))), some (xf LY), some (.int .u8 ((rd LY (3 : Int)).toNat : Int)), some (.int .i64 (wr .i64 ((rd LY (3 : Int)).toNat : Int))), some (.int .i64 (z6 .i64 (wr .i64 ((rd LY (3 : Int)).toNat : Int)) (8 : Int))), some (.int .i64 (Qo .i64 (wr .i64 ((rd LY (2 : Int)).toNat : Int)) (z6 .i64 (wr .i64 ((rd LY (3 : Int)).toNat : Int)) (8 : Int)))), some (.int .i64 LZ), some (.int .i64 (Zs .i64 LZ (65535 : Int))), some (.bool ((Qo .i64 (wr .i64 ((rd LY (2 : Int)).toNat : Int)) (z6 .i64 (wr .i64 ((rd LY (3 : Int)).toNat : Int)) (8 : Int))) != (Zs .i64 LZ (65535 : Int)))), none]) hS xE rfl ?_
 intro l w ho hcl hA hst
 refine y9 hA hst ho hcl xx xF 11 [0, 1, 2, 3, 4, 5, 6, 7, 8, 9, 10] rfl rfl rfl rfl rfl (by exact ⟨nM rfl, nQ rfl (by exact qX (VQ rfl rfl Tryd.runUnderlying9 Mw) rfl), nQ rfl (by exact qX (vU rfl Tryd.runUnderlying5 Tryd.runUnderlying3) rfl), nM rfl, nQ rfl (by exact qX (VQ rfl rfl Tryd.runUnderlying9 Mx) rfl), nQ rfl (by exact qX (vU rfl Tryd.runUnderlying5 Tryd.runUnderlying3) rfl), nQ rfl (by exact qX (shl rfl rfl rfl) rfl), nB rfl, nM rfl, nB rfl, nB rfl, trivial⟩) fun D l a w ho hcl hav hpre hm hE hk hA hst => ?_
 have hS := (Ss.mk hE hst).env2 (e' := [(34, .bool ((Qo .i64 (wr .i64 ((rd LY (2 : Int)).toNat : Int)) (z6 .i64 (wr .i64 ((rd LY (3 : Int)).toNat : Int)) (8 : Int))) != (Zs .i64 LZ (65535 : Int))))]) ⟨rfl, trivial⟩
 refine qQ rfl <| qF hS rfl Tryd.call65 (xb hG K ((Qo .i64 (wr .i64 ((rd LY (2 : Int)).toNat : Int)) (z6 .i64 (wr .i64 ((rd LY (3 : Int)).toNat : Int)) (8 : Int))) != (Zs .i64 LZ (65535 : Int))) (3 : Int) (hS.st.part 0 [0, 1, 2] (by kernel_rfl)) (qs hM) (fun  w hM  hst => qA hS.ev hst.appF rfl fun hS => ?_) (fun v w hk hst => xo (qD (qD (⟨hS.ev.defs, hpan _ _ hk hst.appF.frame⟩)))))
 replace hS : Ss _ _ _ H [Mb, L4, L5] F _ _ := hS
 refine qB ?_
 replace hst := hS.st
 obtain ⟨hcl, hmust, hav2, hA⟩ := dn (vals' := [some (xf LY), some (.int .u8 ((rd LY (2 : Int)).toNat : Int)), some (.int .i64 (wr .i64 ((rd LY (2 : Int)).toNat : Int))), some (xf LY), some (.int .u8 ((rd LY (3 : Int)).toNat : Int)), some (.int .i64 (wr .i64 ((rd LY (3 : Int)).toNat : Int))), some (.int .i64 (z6 .i64 (wr .i64 ((rd LY (3 : Int)).toNat : Int)) (8 : Int))), some (.int .i64 (Qo .i64 (wr .i64 ((rd LY (2 : Int)).toNat : Int)) (z6 .i64 (wr .i64 ((rd LY (3 : Int)).toNat : Int)) (8 : Int)))), some (.int .i64 LZ), some (.int .i64 (Zs .i64 LZ (65535 : Int))), some (.bool ((Qo .i64 (wr .i64 ((rd LY (2 : Int)).toNat : Int)) (z6 .i64 (wr .i64 ((rd LY (3 : Int)).toNat : Int)) (8 : Int))) != (Zs .i64 LZ (65535 : Int)))), some (.tuple ⟨[]⟩)]) 11 [(10, 11), (7, 10), (9, 10), (2, 7), (6, 7), (8, 9), (1, 2), (5, 6), (0, 1), (4, 5), (3, 4)] hA hcl hav hm hpre hk rfl rfl rfl rfl rfl rfl rfl
 clear hm hav
 refine yk hA hst ho hcl hmust [] rfl rfl rfl trivial fun a w hS => ?_
 replace hS := hS.env2 (e' := [(0, qL L1 0), (4, .int .i64 LZ)]) ⟨rfl, rfl, trivial⟩
 refine qe <| qm <| sM hS rfl fun hS => sO hS (yw rfl) rfl fun hS => sO hS (xv rfl Tryd.runUnderlying97 rfl Tryd.sizeOf94 rfl) rfl fun hS => sO hS (xY 1 rfl L3 rfl rfl Tryd.isAgg94) rfl fun hS => sM hS rfl fun hS => qF hS rfl Tryd.call80 (ve hG K (qH.mk (qr.mk Mf) L0.Reader_.text_) LZ L6 Mb MB (hS.st.part 1 [0, 1, 2] (by kernel_rfl)) (qs hM) (fun ME MF Mg Mc w hM MC hst => qA hS.ev hst.appF rfl fun hS => ?_))
 replace hS : Ss _ _ _ H [Mc, L4, L5] F _ _ := hS
 refine sM hS rfl fun hS => sO hS (ex rfl rfl) rfl fun hS => sO hS (ex rfl rfl) rfl fun hS => sA hS rfl fun hS => sA hS rfl fun hS => qB <| qm <| sM hS rfl fun hS => qF hS rfl Tryd.call79 (jB hG K MF (hS.st.part 0 [0, 1, 2] (by kernel_rfl)) (qs hM) (fun  w hM  hst => qA hS.ev hst.appF rfl fun hS => ?_) (fun v w hk hst => xo (qD (⟨hS.ev.defs, hpan _ _ hk hst.appF.frame⟩))))
 replace hS : Ss _ _ _ H [Mc, L4, L5] F _ _ := hS
 refine qB <| wp_seq <| za (vals := [some (qL L1 0), some (qL L1 0), some (qL L1 1), some (.slice L9 L0.out_.length Ma), some (.int .i64 (L0.out_.length : Int)), some (.int .i64 LZ), some (.int .i64 (qh ((L0.out_.length : Int) + LZ))), some (qL L1 0), some (qL L1 0), some (qL L1 2), some (.int .i64 L0.limit_), some (.bool (decide ((qh ((L0.out_.length : Int) + LZ)) > L0.limit_))), none]) hS xE rfl ?_
 intro l w ho hcl hA hst
 refine y9 hA hst ho hcl xx xF 12 [0, 1, 2, 3, 4, 5, 6, 7, 8, 9, 10, 11] rfl rfl rfl rfl rfl (by exact ⟨nM rfl, nQ rfl (by exact qX (yw rfl) rfl), nQ rfl (by exact qX (xv rfl Tryd.runUnderlying97 rfl Tryd.sizeOf32 rfl) rfl), nQ rfl (by exact qX (xY 1 rfl L3 rfl rfl Tryd.isAgg32) rfl), nQ rfl (by exact qX (yj rfl Tryd.runUnderlying32) rfl), nM rfl, nB rfl, nM rfl, nQ rfl (by exact qX (yw rfl) rfl), nQ rfl (by exact qX (xv rfl Tryd.runUnderlying97 rfl Tryd.sizeOf3 rfl) rfl), nQ rfl (by exact qX (xY 1 rfl L3 rfl rfl Tryd.isAgg3) rfl), nB rfl, trivial⟩) fun D l a w ho hcl hav hpre hm hE hk hA hst => ?_
 have hS := (Ss.mk hE hst).env2 (e' := [(58, .bool (decide ((qh ((L0.out_.length : Int) + LZ)) > L0.limit_)))]) ⟨rfl, trivial⟩
 refine qQ rfl <| qF hS rfl Tryd.call65 (xb hG K (decide ((qh ((L0.out_.length : Int) + LZ)) > L0.limit_)) (11 : Int) (hS.st.part 0 [0, 1, 2] (by kernel_rfl)) (qs hM) (fun  w hM  hst => qA hS.ev hst.appF rfl fun hS => ?_) (fun v w hk hst => xo (qD (qD (⟨hS.ev.defs, hpan _ _ hk hst.appF.frame⟩)))))
 replace hS : Ss _ _ _ H [Mc, L4, L5] F _ _ := hS
 refine qB ?_
 replace hst := hS.st
 obtain ⟨hcl, hmust, hav2, hA⟩ := dn (vals' := [some (qL L1 0), some (qL L1 0), some (qL L1 1), some (.slice L9 L0.out_.length Ma), some (.int .i64 (L0.out_.length : Int)), some (.int .i64 LZ), some (.int .i64 (qh ((L0.out_.length : Int) + LZ))), some (qL L1 0), some (qL L1 0), some (qL L1 2), some (.int .i64 L0.limit_), some (.bool (decide ((qh ((L0.out_.length : Int) + LZ)) > L0.limit_))), some (.tuple ⟨[]⟩)]) 12 [(11, 12), (6, 11), (10, 11), (4, 6), (5, 6), (9, 10), (3, 4), (8, 9), (2, 3), (7, 8), (1, 2), (0, 1)] hA hcl hav hm hpre hk rfl rfl rfl rfl rfl rfl rfl
 clear hm hav
 refine yk hA hst ho hcl hmust [] rfl rfl rfl trivial fun a w hS => ?_
 replace hS := hS.env2 (e' := [(0, qL L1 0), (5, xf ME)]) ⟨rfl, rfl, trivial⟩
 refine qe <| zN <| sM hS rfl fun hS => sM hS rfl fun hS => sO hS (yw rfl) rfl fun hS => sO hS (xv rfl Tryd.runUnderlying97 rfl Tryd.sizeOf32 rfl) rfl fun hS => sO hS (xY 1 rfl L3 rfl rfl Tryd.isAgg32) rfl fun hS => sM hS rfl fun hS => ?_
 obtain ⟨My, hM⟩ := qK hM
 refine Lt 2 hS rfl rfl Ms rfl Tryd.runUnderlying32 Tryd.runUnderlying9 X.el5 rfl My rfl fun Me w Mi Mk Mz hz Mt hS => ?_
 have hM := qy hz hM; clear hz
 refine sO hS (yw rfl) rfl fun hS => sO hS (xv rfl Tryd.runUnderlying97 rfl Tryd.sizeOf32 rfl) rfl fun hS => JC 1 ([qL L6 0, .slice Mi Me.length Mk, .int .i64 L0.limit_]) hS rfl rfl L3 rfl rfl rfl rfl Tryd.sizeOf32 fun w MA Mr hS => zp ?_
 exact jE (rs := []) hS rfl rfl (hret Mg Mc Mi Mk Me Mz MA _ (q7 hM) MC Mt Mr (hS.st.pick [1, 0, 2] (by kernel_rfl)))
theorem um {H : xR} {F : List qk} {w : World} {R : Ending → World → Prop} {kr : ((List Int) × Bool) → Prop} {kp : Value → Prop} (hG : Gl H) (K : Nat) (LY : List Int) (Ml : Option Addr) (Mm : Nat) (Mk : jG H [] F (ci .i64) Ml LY) (MF : LY.length ≤ Mm)
    (hS : St w H [] F) (hm : (xh.m K LY).wp kr kp)
    (hret : ∀ (Mp : (List Int)) (Mz : Bool) (w : World), kr (Mp, Mz) → (Mp.length = 16) → St w H [] F → R (.returned (.tuple ⟨[.agg ⟨Mp.flatMap (ci .i64)⟩, .bool Mz]⟩)) w) :
    Calls Tryd.prog 70 ⟨[.slice Ml LY.length Mm]⟩ w R := by
 refine enter Tryd.func70 rfl Tryd.ntmps70 rfl hS fun a w hS => ?_
 have hM := hm; clear hm
 rw [xh.m] at hM
 refine qm <| Qf ((List.replicate 16 (0 : Int)).flatMap (ci .i64)) hS Tryd.zeroValue127 rfl rfl fun w L3 MA L9 hS => sA hS rfl fun hS => qB <| wp_seq <| qm <| sM hS rfl fun hS => sO hS (yj rfl Tryd.runUnderlying66) rfl fun hS => sB hS rfl fun hS => qB <| qG hS rfl hM (fun Mu hM => ?_) (fun Mu hM => ?_)
 ·refine wp_seq ?_
  refine zN <| sO hS (Yg (xs := (List.replicate 16 (0 : Int))) (g := (ci .i64)) (pre := []) (post := []) 0 rfl L9 rfl (by simp) rfl (xg (g := (ci .i64)) (sz := 1) (fun _ => rfl) (List.length_replicate ..)) Tryd.isAgg127 Tryd.sizeOf127) rfl fun hS => Yi (xs := (List.replicate 16 (0 : Int))) (ys := (List.replicate 16 (0 : Int))) (g := (ci .i64)) (pre := []) (post := []) 0 hS rfl rfl L9 rfl (by simp) rfl (xg (g := (ci .i64)) (sz := 1) (fun _ => rfl) (List.length_replicate ..)) (xg (g := (ci .i64)) (sz := 1) (fun _ => rfl) (List.length_replicate ..)) (xH) Tryd.sizeOf127 fun w MB Ma hS => ?_
  replace Ma : xJ MB L3 ((List.replicate 16 (0 : Int)).flatMap (ci .i64)) 127 := by simpa using Ma
  refine sA hS rfl fun hS => qB <| wp_ret <| zm ?_
  exact jc (vs := [.agg ⟨(List.replicate 16 (0 : Int)).flatMap (ci .i64)⟩, .bool false]) hS rfl (by exact ⟨GX 0 rfl Ma rfl (xg (g := (ci .i64)) (sz := 1) (fun _ => rfl) (List.length_replicate ..)) Tryd.isAgg127 Tryd.sizeOf127, Gv rfl, trivial⟩) (hret (List.replicate 16 (0 : Int)) false _ (q7 hM) (List.length_replicate ..) (hS.st.pick [] (by kernel_rfl)))
 ·refine wp_skip ?_
  refine qe <| zj (fun a w => ∃ (L4 : (List Int)) (Mn : qk), Ss 31 [] [(2, qL L3 0)] H [Mn] F a w ∧ (L4.length = 16) ∧ (xJ Mn L3 (L4.flatMap (ci .i64)) 127) ∧ (xh.j2 K L4).wp kr kp) (fun MH Mt => ?_) ?_
  ·refine wp_seq ?_
   refine zN <| sM hS rfl fun hS => sO hS (yj rfl Tryd.runUnderlying66) rfl fun hS => sM hS rfl fun hS => qB <| xO <| zu (fun My a w => ∃ (LZ : (List Int)) (Mh : qk) (Mf : Int), Ss 31 [] [(2, qL L3 0), (10, .slice Ml LY.length Mm), (11, .int .i64 (LY.length : Int)), (12, .int .i64 Mf)] H [Mh] F a w ∧ (LZ.length = 16) ∧ (xJ Mh L3 (LZ.flatMap (ci .i64)) 127) ∧ (xh.l1 K LY My LZ Mf).wp kr kp) K ?_ ?_ ?_
   ·exact ⟨(List.replicate 16 (0 : Int)), MA, (0 : Int), hS.to [0] (by kernel_rfl) ⟨rfl, rfl, rfl, rfl, trivial⟩, (List.length_replicate ..), L9, hM⟩
   ·intro a w hI; obtain ⟨_, _, _, _, _, _, hM⟩ := hI; exact zt hM
   ·intro My a w hI MG Ms
    obtain ⟨LZ, Mh, Mf, hS, L0, L5, hM⟩ := hI
    rw [xh.l1] at hM
    refine qm <| sB hS rfl fun hS => qB <| wp_seq <| qG hS rfl hM (fun Mv hM => ?_) (fun Mv hM => ?_)
    ·refine wp_skip ?_
     refine qe <| wp_seq <| xO <| wp_seq <| zN ?_
     obtain ⟨Mi, hM⟩ := qK hM
     refine sO hS (yu rfl rfl Tryd.runUnderlying66 Tryd.sizeOf3 Mk.wk (fun _ => rfl) rfl Mi) rfl fun hS => sO hS (yD rfl Mk.wk (fun _ => rfl) Mi rfl Tryd.isAgg3) rfl fun hS => zE (v := Value.int .i64) (x0 := (rd LY Mf)) hS (xy rfl) rfl fun Me a w hz hS => ?_
     have hM := qy hz hM; clear hz
     refine qB <| wp_seq <| qm <| sM hS rfl fun hS => sB hS rfl fun hS => sM hS rfl fun hS => yS 2 false 18 (b := (decide (Me < (0 : Int)))) (r := (decide (Me > (15 : Int)))) hS rfl rfl rfl rfl rfl rfl rfl (fun hb a w hS K hK => ?_) rfl fun a w hS => ?_
     ·refine z2 hS rfl rfl rfl hb (mv rfl) rfl fun a w hS => ?_
      refine z2 hS rfl rfl rfl hb (jk rfl rfl rfl) rfl fun a w hS => ?_
      exact zp (hK _ _ (hS.up 2 rfl rfl))
     refine qB <| qG hS rfl hM (fun Mw hM => ?_) (fun Mw hM => ?_)
     ·refine wp_seq ?_
      refine zN <| sO hS (Yg (xs := LZ) (g := (ci .i64)) (pre := []) (post := []) 0 rfl L5 rfl (by simp) rfl (xg (g := (ci .i64)) (sz := 1) (fun _ => rfl) L0) Tryd.isAgg127 Tryd.sizeOf127) rfl fun hS => Yi (xs := LZ) (ys := LZ) (g := (ci .i64)) (pre := []) (post := []) 0 hS rfl rfl L5 rfl (by simp) rfl (xg (g := (ci .i64)) (sz := 1) (fun _ => rfl) L0) (xg (g := (ci .i64)) (sz := 1) (fun _ => rfl) L0) (xH) Tryd.sizeOf127 fun w MC Mb hS => ?_
      replace Mb : xJ MC L3 (LZ.flatMap (ci .i64)) 127 := by simpa using Mb
      refine sA hS rfl fun hS => qB <| wp_ret <| zm (x3 (zm (zm (x3 (zm ?_)))))
      exact jc (vs := [.agg ⟨LZ.flatMap (ci .i64)⟩, .bool false]) hS rfl (by exact ⟨GX 0 rfl Mb rfl (xg (g := (ci .i64)) (sz := 1) (fun _ => rfl) L0) Tryd.isAgg127 Tryd.sizeOf127, Gv rfl, trivial⟩) (hret LZ false _ (q7 hM) L0 (hS.st.pick [] (by kernel_rfl)))
     ·refine wp_skip ?_
      refine qe <| zN <| sM hS rfl fun hS => ?_
      obtain ⟨L8, hM⟩ := qK hM
      refine sO hS (VA rfl rfl Tryd.runUnderlying127 Tryd.sizeOf3 L8) rfl fun hS => sO hS (GO (xs := LZ) (g := (ci .i64)) (pre := []) (post := []) 0 rfl L5 rfl (by simp) rfl (fun _ => rfl) (y3 L0 L8) rfl Tryd.isAgg3) rfl fun hS => sB hS rfl fun hS => sO hS (VA rfl rfl Tryd.runUnderlying127 Tryd.sizeOf3 L8) rfl fun hS => Dv (xs := LZ) (g := (ci .i64)) (pre := []) (post := []) 0 ((qh ((rd LZ Me) + (1 : Int)))) hS rfl rfl L5 rfl (by simp) rfl (fun _ => rfl) (y3 L0 L8) rfl Tryd.sizeOf3 (xH _) fun Mg w Mq hz Mc hS => ?_
      have Mx : Mg.length = 16 := by rw [hz, List.length_set]; exact L0
      have hM := qy hz hM; clear hz
      replace Mc : xJ Mq L3 (Mg.flatMap (ci .i64)) 127 := by simpa using Mc
      refine zp <| zy (qe ?_)
      refine zN <| sB hS rfl fun hS => sM hS rfl fun hS => zp <| qe ?_
      exact Ms _ _ ⟨Mg, Mq, (qh (Mf + (1 : Int))), hS.to [0] (by kernel_rfl) ⟨rfl, rfl, rfl, rfl, trivial⟩, Mx, Mc, hM⟩
    ·refine wp_exit ?_
     refine qE (qE (ze (qe ?_)))
     exact Mt _ _ ⟨LZ, Mh, hS.to [0] (by kernel_rfl) ⟨rfl, trivial⟩, L0, L5, hM⟩
  ·intro a w hI
   obtain ⟨L4, Mn, hS, Mj, Mr, hM⟩ := hI
   rw [xh.j2] at hM
   refine qm <| sO hS (VA rfl rfl Tryd.runUnderlying127 Tryd.sizeOf3 rfl) rfl fun hS => Dv (xs := L4) (g := (ci .i64)) (pre := []) (post := []) 0 ((0 : Int)) hS rfl rfl Mr rfl (by simp) rfl (fun _ => rfl) (y3 Mj rfl) rfl Tryd.sizeOf3 (xH _) fun L1 w MD hz L7 hS => ?_
   have L6 : L1.length = 16 := by rw [hz, List.length_set]; exact Mj
   have hM := qy hz hM; clear hz
   replace L7 : xJ MD L3 (L1.flatMap (ci .i64)) 127 := by simpa using L7
   refine qB <| qm <| sO hS (Yg (xs := L1) (g := (ci .i64)) (pre := []) (post := []) 0 rfl L7 rfl (by simp) rfl (xg (g := (ci .i64)) (sz := 1) (fun _ => rfl) L6) Tryd.isAgg127 Tryd.sizeOf127) rfl fun hS => Yi (xs := L1) (ys := L1) (g := (ci .i64)) (pre := []) (post := []) 0 hS rfl rfl L7 rfl (by simp) rfl (xg (g := (ci .i64)) (sz := 1) (fun _ => rfl) L6) (xg (g := (ci .i64)) (sz := 1) (fun _ => rfl) L6) (xH) Tryd.sizeOf127 fun w ME Md hS => ?_
   replace Md : xJ ME L3 (L1.flatMap (ci .i64)) 127 := by simpa using Md
   refine sA hS rfl fun hS => qB <| wp_ret ?_
   exact jc (vs := [.agg ⟨L1.flatMap (ci .i64)⟩, .bool true]) hS rfl (by exact ⟨GX 0 rfl Md rfl (xg (g := (ci .i64)) (sz := 1) (fun _ => rfl) L6) Tryd.isAgg127 Tryd.sizeOf127, Gv rfl, trivial⟩) (hret L1 true _ (q7 hM) L6 (hS.st.pick [] (by kernel_rfl)))
theorem QT {H : xR} {F : List qk} {w : World} {R : Ending → World → Prop} {kr : Int → Prop} {kp : Value → Prop} (hG : Gl H) (K : Nat) (LY : List Int) (L6 : Option Addr) (L8 : Nat) (Mk : jG H [] F (ci .i64) L6 LY) (Mh : LY.length ≤ L8)
    (hS : St w H [] F) (hm : (xr.m K LY).wp kr kp)
    (hret : ∀ (Mn : Int) (w : World), kr Mn → St w H [] F → R (.returned (.int .i64 Mn)) w) :
    Calls Tryd.prog 69 ⟨[.slice L6 LY.length L8]⟩ w R := by
 refine enter Tryd.func69 rfl Tryd.ntmps69 rfl hS fun a w hS => ?_
 have hM := hm; clear hm
 rw [xr.m] at hM
 refine qm <| sA hS rfl fun hS => qB <| qm <| sM hS rfl fun hS => qF hS rfl Tryd.call70 (um hG K LY L6 L8 (Mk.app _) Mh (hS.st.part 0 [] (by kernel_rfl)) (qs hM) (fun L1 Ms w hM L5 hst => qA hS.ev hst.appF rfl fun hS => ?_))
 replace hS : Ss _ _ _ H [] F _ _ := hS
 refine sM hS rfl fun hS => sO hS (ex rfl rfl) rfl fun hS => sO hS (ex rfl rfl) rfl fun hS => Qf ((List.replicate 16 (0 : Int)).flatMap (ci .i64)) hS Tryd.zeroValue127 rfl rfl fun w L7 Mr Mb hS => Yi (xs := (List.replicate 16 (0 : Int))) (ys := L1) (g := (ci .i64)) (pre := []) (post := []) 0 hS rfl rfl Mb rfl (by simp) rfl (xg (g := (ci .i64)) (sz := 1) (fun _ => rfl) (List.length_replicate ..)) (xg (g := (ci .i64)) (sz := 1) (fun _ => rfl) L5) (xH) Tryd.sizeOf127 fun w L9 L3 hS => ?_
 replace L3 : xJ L9 L7 (L1.flatMap (ci .i64)) 127 := by simpa using L3
 refine sA hS rfl fun hS => qB <| wp_seq <| qm <| sM hS rfl fun hS => sO hS (un rfl rfl) rfl fun hS => qB <| qG hS rfl hM (fun Me hM => ?_) (fun Me hM => ?_)
 ·refine wp_seq ?_
  refine zN <| sA hS rfl fun hS => qB <| wp_ret <| zm ?_
  exact zD (rs := [2]) hS rfl rfl (hret (1 : Int) _ (q7 hM) (hS.st.pick [] (by kernel_rfl)))
 ·refine wp_skip ?_
  refine qe <| qm <| sA hS rfl fun hS => qB <| zj (fun a w => ∃ (LZ : Int), Ss 38 [] [(3, qL L7 0), (5, .int .i64 LZ)] H [L9] F a w ∧ (xr.j2 K L1 LZ).wp kr kp) (fun Mq Md => ?_) ?_
  ·refine wp_seq ?_
   refine zN <| sO hS (Yg (xs := L1) (g := (ci .i64)) (pre := []) (post := []) 0 rfl L3 rfl (by simp) rfl (xg (g := (ci .i64)) (sz := 1) (fun _ => rfl) L5) Tryd.isAgg127 Tryd.sizeOf127) rfl fun hS => sM hS rfl fun hS => qB <| xO <| zu (fun Ml a w => ∃ (L0 : Int) (L4 : Int), Ss 38 [] [(3, qL L7 0), (5, .int .i64 L0), (15, .agg ⟨L1.flatMap (ci .i64)⟩), (16, .int .i64 L4)] H [L9] F a w ∧ (xr.l1 K L1 Ml L0 L4).wp kr kp) K ?_ ?_ ?_
   ·exact ⟨(0 : Int), (0 : Int), hS.to [0] (by kernel_rfl) ⟨rfl, rfl, rfl, rfl, trivial⟩, hM⟩
   ·intro a w hI; obtain ⟨_, _, _, hM⟩ := hI; exact zt hM
   ·intro Ml a w hI Mp Mc
    obtain ⟨L0, L4, hS, hM⟩ := hI
    rw [xr.l1] at hM
    refine qm <| sB hS rfl fun hS => qB <| wp_seq <| qG hS rfl hM (fun Mf hM => ?_) (fun Mf hM => ?_)
    ·refine wp_skip ?_
     refine qe <| wp_seq <| xO <| qm <| sM hS rfl fun hS => ?_
     obtain ⟨Mi, hM⟩ := qK hM
     refine sO hS (Lh rfl rfl Tryd.runUnderlying127 Tryd.isAgg3 Tryd.sizeOf3 (fun _ => rfl) L5 Mi rfl) rfl fun hS => sA hS rfl fun hS => zE (v := Value.int .i64) (x0 := (rd L1 L4)) hS (xy rfl) rfl fun Mm a w hz hS => ?_
     have hM := qy hz hM; clear hz
     refine qB <| zN <| sM hS rfl fun hS => sM hS rfl fun hS => sM hS rfl fun hS => ?_
     obtain ⟨Mj, hM⟩ := qK hM
     refine sO hS (shr rfl rfl Mj) rfl fun hS => sB hS rfl fun hS => sB hS rfl fun hS => zE (v := Value.int .i64) (x0 := (qh (L0 + (qh (Mm * (z9 .i64 (32768 : Int) L4)))))) hS (xy rfl) rfl fun Ma a w hz hS => ?_
     have hM := qy hz hM; clear hz
     refine zp <| zy (qe ?_)
     refine zN <| sB hS rfl fun hS => sM hS rfl fun hS => zp <| qe ?_
     exact Mc _ _ ⟨Ma, (qh (L4 + (1 : Int))), hS.to [0] (by kernel_rfl) ⟨rfl, rfl, rfl, rfl, trivial⟩, hM⟩
    ·refine wp_exit ?_
     refine qE (qE (ze (qe ?_)))
     exact Md _ _ ⟨L0, hS.to [0] (by kernel_rfl) ⟨rfl, rfl, trivial⟩, hM⟩
  ·intro a w hI
   obtain ⟨LZ, hS, hM⟩ := hI
   rw [xr.j2] at hM
   refine wp_seq <| qm <| sM hS rfl fun hS => sB hS rfl fun hS => sM hS rfl fun hS => yS 2 false 29 (b := (LZ == (0 : Int))) (r := (LZ == (32768 : Int))) hS rfl rfl rfl rfl rfl rfl rfl (fun hb a w hS K hK => ?_) rfl fun a w hS => ?_
   ·refine z2 hS rfl rfl rfl hb (mv rfl) rfl fun a w hS => ?_
    refine z2 hS rfl rfl rfl hb (jk rfl rfl rfl) rfl fun a w hS => ?_
    exact zp (hK _ _ (hS.up 2 rfl rfl))
   refine sM hS rfl fun hS => yS 3 false 33 (b := ((LZ == (0 : Int)) || (LZ == (32768 : Int)))) (r := (L1 == ([0, (1 : Int), 0, 0, 0, 0, 0, 0, 0, 0, 0, 0, 0, 0, 0, 0] : List Int))) hS rfl rfl rfl rfl rfl rfl rfl (fun hb a w hS K hK => ?_) rfl fun a w hS => ?_
   ·refine z2 hS rfl rfl rfl hb (Yg (xs := L1) (g := (ci .i64)) (pre := []) (post := []) 0 rfl L3 rfl (by simp) rfl (xg (g := (ci .i64)) (sz := 1) (fun _ => rfl) L5) Tryd.isAgg127 Tryd.sizeOf127) rfl fun a w hS => ?_
    refine z2 hS rfl rfl rfl hb (Ku (([0, (1 : Int), 0, 0, 0, 0, 0, 0, 0, 0, 0, 0, 0, 0, 0, 0] : List Int).flatMap (ci .i64)) Tryd.zeroValue127 Tryd.runUnderlying127 Tryd.sizeOf3 rfl (by kernel_rfl)) rfl fun a w hS => z2 hS rfl rfl rfl hb (DD rfl rfl Tryd.runUnderlying127 Tryd.runUnderlying3 Tryd.sizeOf3 Tryd.isAgg3 L5 rfl Tryd.eqGuardType127 rfl) rfl fun a w hS => ?_
    exact zp (hK _ _ (hS.up 3 rfl rfl))
   refine qB <| qG hS rfl hM (fun Mg hM => ?_) (fun Mg hM => ?_)
   ·refine wp_seq ?_
    refine zN <| sA hS rfl fun hS => qB <| wp_ret <| zm ?_
    exact zD (rs := [2]) hS rfl rfl (hret (0 : Int) _ (q7 hM) (hS.st.pick [] (by kernel_rfl)))
   ·refine wp_skip ?_
    refine qe <| qm <| sA hS rfl fun hS => qB <| wp_ret ?_
    exact zD (rs := [2]) hS rfl rfl (hret (3 : Int) _ (q7 hM) (hS.st.pick [] (by kernel_rfl)))
def qI.Own (L4 : Nat) (LY : qI) (L5 : qk) : Prop :=
  ∃ (L1 : qk) (LZ : Option Addr) (L0 : Nat) (L3 : qk), L5 = L1 ++ L3 ∧ xJ L1 L4 ((LY.counts_.flatMap (ci .i64)) ++ [.slice LZ LY.symbols_.length L0]) 160 ∧ LY.counts_.length = 16 ∧ xi 3 (ci .i64) 1 LZ LY.symbols_ L0 L3
theorem VP {H : xR} {F : List qk} {w : World} {R : Ending → World → Prop} {kr : ((Option qI) × Int) → Prop} {kp : Value → Prop} (hG : Gl H) (K : Nat) (LY : List Int) (L4 : Option Addr) (L5 : Nat) (L8 : jG H [] F (ci .i64) L4 LY) (Mp : LY.length ≤ L5)
    (hS : St w H [] F) (hm : (xK.m K LY).wp kr kp)
    (hret : ∀ (Ms : Option Addr) (MJ : Option qI) (Mv : qk) (MK : Int) (w : World), kr (MJ, MK) → (Ki qI.Own Ms MJ Mv) → St w H [Mv] F → R (.returned (.tuple ⟨[.pointer Ms, .int .i64 MK]⟩)) w) :
    Calls Tryd.prog 91 ⟨[.slice L4 LY.length L5]⟩ w R := by
 refine enter Tryd.func91 rfl Tryd.ntmps91 rfl hS fun a w hS => ?_
 have hM := hm; clear hm
 rw [xK.m] at hM
 refine qm <| sA hS rfl fun hS => sA hS rfl fun hS => qB <| wp_seq <| qm <| sM hS rfl fun hS => qF hS rfl Tryd.call69 (QT hG K LY L4 L5 (L8.app _) Mp (hS.st.part 0 [] (by kernel_rfl)) (qs hM) (fun MR w hM  hst => qA hS.ev hst.appF rfl fun hS => ?_))
 replace hS : Ss _ _ _ H [] F _ _ := hS
 refine sA hS rfl fun hS => qB <| qm <| sM hS rfl fun hS => sB hS rfl fun hS => qB <| qG hS rfl hM (fun MC hM => ?_) (fun MC hM => ?_)
 ·refine wp_seq ?_
  refine zN <| sM hS rfl fun hS => sA hS rfl fun hS => sA hS rfl fun hS => qB <| wp_ret <| zm ?_
  replace hS := hS.nilF
  exact zD (rs := [2, 3]) hS rfl rfl (hret none none ([] : qk) MR _ (q7 hM) (.inl ⟨rfl, rfl, rfl⟩) (hS.st.pick [0] (by kernel_rfl)))
 ·refine wp_skip ?_
  refine qe <| qm <| sO hS (Z9 (((List.replicate 16 (0 : Int)).flatMap (ci .i64)) ++ [.slice none 0 0]) [(0, 16), (16, 1)] Tryd.zeroValue160 Tryd.runUnderlying160 (by intro w; simp [Tryd.sizeOf127, Tryd.sizeOf66]) rfl rfl) rfl fun hS => bx (((List.replicate 16 (0 : Int)).flatMap (ci .i64)) ++ [.slice none 0 0]) hS rfl rfl rfl fun w L9 MO Mw hS => ?_
  obtain ⟨Mt, Mz, hS⟩ := hS.nilV 3 (ci .i64) 1
  refine sA hS rfl fun hS => qB <| qm <| sM hS rfl fun hS => sM hS rfl fun hS => qF hS rfl Tryd.call70 (um hG K LY L4 L5 (L8.app _) Mp (hS.st.part 0 [0, 1] (by kernel_rfl)) (qs hM) (fun L6 MY w hM Mk hst => qA hS.ev hst.appF rfl fun hS => ?_))
  replace hS : Ss _ _ _ H [Mt, MO] F _ _ := hS
  refine sM hS rfl fun hS => sO hS (ex rfl rfl) rfl fun hS => sO hS (ex rfl rfl) rfl fun hS => sO hS (yw rfl) rfl fun hS => sO hS (xv rfl Tryd.runUnderlying160 rfl Tryd.sizeOf127 rfl) rfl fun hS => Yi (xs := (List.replicate 16 (0 : Int))) (ys := L6) (g := (ci .i64)) (pre := []) (post := [.slice none ([] : List Int).length (0)]) 1 hS rfl rfl Mw rfl (by simp) rfl (xg (g := (ci .i64)) (sz := 1) (fun _ => rfl) (List.length_replicate ..)) (xg (g := (ci .i64)) (sz := 1) (fun _ => rfl) Mk) (xH) Tryd.sizeOf127 fun w Mu Mi hS => ?_
  replace Mi : xJ Mu L9 ((L6.flatMap (ci .i64)) ++ [.slice none ([] : List Int).length (0)]) 160 := by simpa using Mi
  refine qB <| wp_seq <| qm <| sA hS rfl fun hS => qB <| xO <| zu (fun Mr a w => ∃ (Mc : Option Addr) (Me : Nat) (LZ : (List Int)) (Ma : qk) (Mb : qk) (L1 : Int), Ss 50 [] [(0, .slice L4 LY.length L5), (5, qL L9 0), (6, .int .i64 L1)] H [Mb, Ma] F a w ∧ (xi 3 (ci .i64) 1 Mc LZ Me Ma) ∧ (xJ Mb L9 ((L6.flatMap (ci .i64)) ++ [.slice Mc LZ.length Me]) 160) ∧ (xK.l1 K LY L6 Mr LZ L1).wp kr kp) K ?_ ?_ ?_
  ·exact ⟨none, 0, ([] : List Int), Mt, Mu, (1 : Int), hS.to [1, 0] (by kernel_rfl) ⟨rfl, rfl, rfl, trivial⟩, Mz, Mi, hM⟩
  ·intro a w hI; obtain ⟨_, _, _, _, _, _, _, _, _, hM⟩ := hI; exact zt hM
  ·intro Mr a w hI MV My
   obtain ⟨Mc, Me, LZ, Ma, Mb, L1, hS, Mn, Ml, hM⟩ := hI
   rw [xK.l1] at hM
   refine wp_seq <| qm <| sM hS rfl fun hS => sB hS rfl fun hS => qB <| qG hS rfl hM (fun MD hM => ?_) (fun MD hM => ?_)
   ·refine wp_skip ?_
    refine qe <| wp_seq <| xO <| qm <| sM hS rfl fun hS => sO hS (yj rfl Tryd.runUnderlying66) rfl fun hS => sM hS rfl fun hS => qB <| xO <| zu (fun MH a w => ∃ (Md : Option Addr) (Mf : Nat) (L0 : (List Int)) (Mg : qk) (Mh : qk) (L3 : Int), Ss 50 [] [(0, .slice L4 LY.length L5), (5, qL L9 0), (6, .int .i64 L1), (28, .slice L4 LY.length L5), (29, .int .i64 (LY.length : Int)), (30, .int .i64 L3)] H [Mh, Mg] F a w ∧ (xi 3 (ci .i64) 1 Md L0 Mf Mg) ∧ (xJ Mh L9 ((L6.flatMap (ci .i64)) ++ [.slice Md L0.length Mf]) 160) ∧ (xK.l2 K (xK.l1 K LY L6 Mr) LY L1 MH L0 L3).wp kr kp) K ?_ ?_ ?_
    ·exact ⟨Mc, Me, LZ, Ma, Mb, (0 : Int), hS.to [0, 1] (by kernel_rfl) ⟨rfl, rfl, rfl, rfl, rfl, rfl, trivial⟩, Mn, Ml, hM⟩
    ·intro a w hI; obtain ⟨_, _, _, _, _, _, _, _, _, hM⟩ := hI; exact zt hM
    ·intro MH a w hI MU Mm
     obtain ⟨Md, Mf, L0, Mg, Mh, L3, hS, Mj, L7, hM⟩ := hI
     rw [xK.l2] at hM
     refine qm <| sB hS rfl fun hS => qB <| wp_seq <| qG hS rfl hM (fun ME hM => ?_) (fun ME hM => ?_)
     ·refine wp_skip ?_
      refine qe <| wp_seq <| xO <| qm <| sM hS rfl fun hS => ?_
      obtain ⟨Mq, hM⟩ := qK hM
      refine sO hS (yu rfl rfl Tryd.runUnderlying66 Tryd.sizeOf3 L8.wk (fun _ => rfl) rfl Mq) rfl fun hS => sO hS (yD rfl L8.wk (fun _ => rfl) Mq rfl Tryd.isAgg3) rfl fun hS => sA hS rfl fun hS => zE (v := Value.int .i64) (x0 := (rd LY L3)) hS (xy rfl) rfl fun MS a w hz hS => ?_
      have hM := qy hz hM; clear hz
      refine qB <| qm <| sM hS rfl fun hS => sM hS rfl fun hS => sB hS rfl fun hS => qB <| qG hS rfl hM (fun MF hM => ?_) (fun MF hM => ?_)
      ·refine zN ?_
       refine sM hS rfl fun hS => sM hS rfl fun hS => sO hS (yw rfl) rfl fun hS => sO hS (xv rfl Tryd.runUnderlying160 rfl Tryd.sizeOf66 rfl) rfl fun hS => sO hS (Li 0 rfl L7 rfl (by rfl) (xg (g := (ci .i64)) (sz := 1) (fun _ => rfl) Mk) Tryd.isAgg66) rfl fun hS => sM hS rfl fun hS => Y3 (g := (ci .i64)) ([L3] : List Int) [.int .i64 L3] hS Tryd.runUnderlying66 Tryd.sizeOf3 X.el3 rfl rfl rfl (by simp [Value.cells]) rfl rfl rfl rfl rfl fun w MT MW MX MA hS => ?_
       obtain ⟨MG, hM⟩ := qK hM
       refine JA (ys := ([L3] : List Int)) 2 hS rfl rfl Mj rfl (MA.rd (i := 0) rfl) Tryd.runUnderlying66 Tryd.runUnderlying66 X.el3 (fun _ => rfl) rfl xH MG rfl fun ML w MM MN MP hz MB hS => ?_
       have hM := qy hz hM; clear hz
       refine sO hS (yw rfl) rfl fun hS => sO hS (xv rfl Tryd.runUnderlying160 rfl Tryd.sizeOf66 rfl) rfl fun hS => LT 1 hS rfl rfl L7 rfl rfl (xg (g := (ci .i64)) (sz := 1) (fun _ => rfl) Mk) rfl Tryd.sizeOf66 fun w MQ Mx hS => zp <| zy (qe ?_)
       refine zN <| sB hS rfl fun hS => sM hS rfl fun hS => zp <| qe ?_
       exact Mm _ _ ⟨MM, MN, ML, MP, MQ, (qh (L3 + (1 : Int))), hS.to [1, 2] (by kernel_rfl) ⟨rfl, rfl, rfl, rfl, rfl, rfl, trivial⟩, MB, Mx, hM⟩
      ·refine wp_skip ?_
       refine zy (qe ?_)
       refine zN <| sB hS rfl fun hS => sM hS rfl fun hS => zp <| qe ?_
       exact Mm _ _ ⟨Md, Mf, L0, Mg, Mh, (qh (L3 + (1 : Int))), hS.to [0, 1] (by kernel_rfl) ⟨rfl, rfl, rfl, rfl, rfl, rfl, trivial⟩, Mj, L7, hM⟩
     ·refine wp_exit ?_
      refine qE (qE (ze (zy (qe ?_))))
      refine zN <| sM hS rfl fun hS => sB hS rfl fun hS => zE (v := Value.int .i64) (x0 := (qh (L1 + (1 : Int)))) hS (xy rfl) rfl fun MI a w hz hS => ?_
      have hM := qy hz hM; clear hz
      refine zp <| qe ?_
      exact My _ _ ⟨Md, Mf, L0, Mg, Mh, MI, hS.to [0, 1] (by kernel_rfl) ⟨rfl, rfl, rfl, trivial⟩, Mj, L7, hM⟩
   ·refine wp_exit ?_
    refine qE (qE (ze (qe ?_)))
    refine qm <| sM hS rfl fun hS => sA hS rfl fun hS => sA hS rfl fun hS => qB <| wp_ret ?_
    replace hS := hS.front [0, 1] (by kernel_rfl)
    replace hS := hS.joinF
    exact zD (rs := [2, 3]) hS rfl rfl (hret (some ⟨L9, 0, none⟩) (some (qI.mk L6 LZ)) (Mb ++ Ma) (0 : Int) _ (q7 hM) (.inr ⟨_, _, rfl, rfl, Mb, Mc, Me, Ma, rfl, Ml, Mk, Mn⟩) (hS.st.pick [0] (by kernel_rfl)))
theorem yV {H : xR} {F : List qk} {w : World} {R : Ending → World → Prop} {kr : (Option qI) → Prop} {kp : Value → Prop} (hG : Gl H) (K : Nat) (LY : List Int) (LZ : Option Addr) (L0 : Nat) (L6 : jG H [] F (ci .i64) LZ LY) (L5 : LY.length ≤ L0)
    (hS : St w H [] F) (hm : (yg.m K LY).wp kr kp)
    (hret : ∀ (L3 : Option Addr) (L7 : Option qI) (L4 : qk) (w : World), kr L7 → (Ki qI.Own L3 L7 L4) → St w H [L4] F → R (.returned (.pointer L3)) w)
    (hpan : ∀ v w, kp v → St w H [] F → R (.panicked [⟨v, false, false⟩]) w) :
    Calls Tryd.prog 83 ⟨[.slice LZ LY.length L0]⟩ w R := by
 refine enter Tryd.func83 rfl Tryd.ntmps83 rfl hS fun a w hS => ?_
 have hM := hm; clear hm
 rw [yg.m] at hM
 refine qm <| sA hS rfl fun hS => qB <| qm <| sM hS rfl fun hS => qF hS rfl Tryd.call91 (VP hG K LY LZ L0 (L6.app _) L5 (hS.st.part 0 [] (by kernel_rfl)) (qs hM) (fun L8 Ma L1 Mb w hM L9 hst => qA hS.ev hst.appF rfl fun hS => ?_))
 replace hS : Ss _ _ _ H [L1] F _ _ := hS
 refine sM hS rfl fun hS => sO hS (ex rfl rfl) rfl fun hS => sO hS (ex rfl rfl) rfl fun hS => sA hS rfl fun hS => sA hS rfl fun hS => qB <| qm <| sM hS rfl fun hS => sB hS rfl fun hS => qF hS rfl Tryd.call65 (xb hG K (Mb != (0 : Int)) (3 : Int) (hS.st.part 0 [0] (by kernel_rfl)) (qs hM) (fun  w hM  hst => qA hS.ev hst.appF rfl fun hS => ?_) (fun v w hk hst => xo (qD (⟨hS.ev.defs, hpan _ _ hk hst.appF.frame⟩))))
 replace hS : Ss _ _ _ H [L1] F _ _ := hS
 refine qB <| qm <| sM hS rfl fun hS => sA hS rfl fun hS => qB <| wp_ret ?_
 exact zD (rs := [2]) hS rfl rfl (hret L8 Ma L1 _ (q7 hM) L9 (hS.st.pick [0] (by kernel_rfl)))
theorem Z6 {H : xR} {F : List qk} {w : World} {R : Ending → World → Prop} {kr : ((Option qI) × (Option qI)) → Prop} {kp : Value → Prop} (hG : Gl H) (K : Nat)
    (hS : St w H [] F) (hm : (zq.m K).wp kr kp)
    (hret : ∀ (MD : Option Addr) (M3 : Option qI) (MK : qk) (ME : Option Addr) (M4 : Option qI) (ML : qk) (w : World), kr (M3, M4) → (Ki qI.Own MD M3 MK) → (Ki qI.Own ME M4 ML) → St w H [MK, ML] F → R (.returned (.tuple ⟨[.pointer MD, .pointer ME]⟩)) w)
    (hpan : ∀ v w, kp v → St w H [] F → R (.panicked [⟨v, false, false⟩]) w) :
    Calls Tryd.prog 63 ⟨[]⟩ w R := by
 refine enter Tryd.func63 rfl Tryd.ntmps63 rfl hS fun a w hS => ?_
 have hM := hm; clear hm
 rw [zq.m] at hM
 refine qm <| sA hS rfl fun hS => sA hS rfl fun hS => qB <| qm <| Qf ((List.replicate 288 (0 : Int)).flatMap (ci .i64)) hS Tryd.zeroValue145 (by kernel_rfl) rfl fun w LZ M5 MM hS => qB <| zj (fun a w => ∃ (LY : (List Int)) (L7 : qk), Ss 38 [] [(2, qL LZ 0)] H [L7] F a w ∧ (LY.length = 288) ∧ (xJ L7 LZ (LY.flatMap (ci .i64)) 145) ∧ (zq.j3 K LY).wp kr kp) (fun Nd MQ => ?_) ?_
 ·refine wp_seq ?_
  refine zN <| sM hS rfl fun hS => qB <| xO <| zu (fun MC a w => ∃ (L4 : (List Int)) (Mq : qk) (L0 : Int), Ss 38 [] [(2, qL LZ 0), (6, .int .i64 L0)] H [Mq] F a w ∧ (L4.length = 288) ∧ (xJ Mq LZ (L4.flatMap (ci .i64)) 145) ∧ (zq.l1 K MC L4 L0).wp kr kp) K ?_ ?_ ?_
  ·exact ⟨(List.replicate 288 (0 : Int)), M5, (0 : Int), hS.to [0] (by kernel_rfl) ⟨rfl, rfl, trivial⟩, (List.length_replicate ..), MM, hM⟩
  ·intro a w hI; obtain ⟨_, _, _, _, _, _, hM⟩ := hI; exact zt hM
  ·intro MC a w hI Nc My
   obtain ⟨L4, Mq, L0, hS, Mg, Mu, hM⟩ := hI
   rw [zq.l1] at hM
   refine qm <| sB hS rfl fun hS => qB <| wp_seq <| qG hS rfl hM (fun MT hM => ?_) (fun MT hM => ?_)
   ·refine wp_skip ?_
    refine qe <| wp_seq <| xO <| qm <| sM hS rfl fun hS => sA hS rfl fun hS => qB <| qm <| sM hS rfl fun hS => ?_
    obtain ⟨L3, hM⟩ := qK hM
    refine sO hS (VA rfl rfl Tryd.runUnderlying145 Tryd.sizeOf3 L3) rfl fun hS => Dv (xs := L4) (g := (ci .i64)) (pre := []) (post := []) 0 ((8 : Int)) hS rfl rfl Mu rfl (by simp) rfl (fun _ => rfl) (y3 Mg L3) rfl Tryd.sizeOf3 (xH _) fun L9 w MF hz L8 hS => ?_
    have Mh : L9.length = 288 := by rw [hz, List.length_set]; exact Mg
    have hM := qy hz hM; clear hz
    replace L8 : xJ MF LZ (L9.flatMap (ci .i64)) 145 := by simpa using L8
    refine qB <| zj (fun a w => ∃ (L5 : (List Int)) (Mr : qk), Ss 38 [] [(2, qL LZ 0), (3, .int .i64 L0), (6, .int .i64 L0)] H [Mr] F a w ∧ (L5.length = 288) ∧ (xJ Mr LZ (L5.flatMap (ci .i64)) 145) ∧ (zq.j2 K (zq.l1 K MC) L0 L5).wp kr kp) (fun Nb Mx => ?_) ?_
    ·refine wp_seq ?_
     refine zN <| sM hS rfl fun hS => sB hS rfl fun hS => sM hS rfl fun hS => yS 2 true 13 (b := (decide (L0 ≥ (144 : Int)))) (r := (decide (L0 < (256 : Int)))) hS rfl rfl rfl rfl rfl rfl rfl (fun hb a w hS K hK => ?_) rfl fun a w hS => ?_
     ·refine z2 hS rfl rfl rfl hb (mv rfl) rfl fun a w hS => ?_
      refine z2 hS rfl rfl rfl hb (jk rfl rfl rfl) rfl fun a w hS => ?_
      exact zp (hK _ _ (hS.up 2 rfl rfl))
     refine qB <| qG hS rfl hM (fun MU hM => ?_) (fun MU hM => ?_)
     ·refine zN ?_
      refine sM hS rfl fun hS => sO hS (VA rfl rfl Tryd.runUnderlying145 Tryd.sizeOf3 L3) rfl fun hS => Dv (xs := L9) (g := (ci .i64)) (pre := []) (post := []) 0 ((9 : Int)) hS rfl rfl L8 rfl (by simp) rfl (fun _ => rfl) (y3 Mh L3) rfl Tryd.sizeOf3 (xH _) fun Ml w MG hz Md hS => ?_
      have MX : Ml.length = 288 := by rw [hz, List.length_set]; exact Mh
      have hM := qy hz hM; clear hz
      replace Md : xJ MG LZ (Ml.flatMap (ci .i64)) 145 := by simpa using Md
      refine zp <| qe ?_
      exact Mx _ _ ⟨Ml, MG, hS.to [0] (by kernel_rfl) ⟨rfl, rfl, rfl, trivial⟩, MX, Md, hM⟩
     ·refine wp_skip ?_
      refine qe ?_
      exact Mx _ _ ⟨L9, MF, hS.to [0] (by kernel_rfl) ⟨rfl, rfl, rfl, trivial⟩, Mh, L8, hM⟩
    ·intro a w hI
     obtain ⟨L5, Mr, hS, Mi, Mv, hM⟩ := hI
     rw [zq.j2] at hM
     refine qm <| sM hS rfl fun hS => sB hS rfl fun hS => sM hS rfl fun hS => yS 2 true 21 (b := (decide (L0 ≥ (256 : Int)))) (r := (decide (L0 < (280 : Int)))) hS rfl rfl rfl rfl rfl rfl rfl (fun hb a w hS K hK => ?_) rfl fun a w hS => ?_
     ·refine z2 hS rfl rfl rfl hb (mv rfl) rfl fun a w hS => ?_
      refine z2 hS rfl rfl rfl hb (jk rfl rfl rfl) rfl fun a w hS => ?_
      exact zp (hK _ _ (hS.up 2 rfl rfl))
     refine qB <| qG hS rfl hM (fun MV hM => ?_) (fun MV hM => ?_)
     ·refine zN ?_
      refine sM hS rfl fun hS => sO hS (VA rfl rfl Tryd.runUnderlying145 Tryd.sizeOf3 L3) rfl fun hS => Dv (xs := L5) (g := (ci .i64)) (pre := []) (post := []) 0 ((7 : Int)) hS rfl rfl Mv rfl (by simp) rfl (fun _ => rfl) (y3 Mi L3) rfl Tryd.sizeOf3 (xH _) fun Mm w MH hz Me hS => ?_
      have MY : Mm.length = 288 := by rw [hz, List.length_set]; exact Mi
      have hM := qy hz hM; clear hz
      replace Me : xJ MH LZ (Mm.flatMap (ci .i64)) 145 := by simpa using Me
      refine zp <| zy (qe ?_)
      refine zN <| sB hS rfl fun hS => sM hS rfl fun hS => zp <| qe ?_
      exact My _ _ ⟨Mm, MH, (qh (L0 + (1 : Int))), hS.to [0] (by kernel_rfl) ⟨rfl, rfl, trivial⟩, MY, Me, hM⟩
     ·refine wp_skip ?_
      refine zy (qe ?_)
      refine zN <| sB hS rfl fun hS => sM hS rfl fun hS => zp <| qe ?_
      exact My _ _ ⟨L5, Mr, (qh (L0 + (1 : Int))), hS.to [0] (by kernel_rfl) ⟨rfl, rfl, trivial⟩, Mi, Mv, hM⟩
   ·refine wp_exit ?_
    refine qE (qE (ze (qe ?_)))
    exact MQ _ _ ⟨L4, Mq, hS.to [0] (by kernel_rfl) ⟨rfl, trivial⟩, Mg, Mu, hM⟩
 ·intro a w hI
  obtain ⟨LY, L7, hS, MA, MN, hM⟩ := hI
  rw [zq.j3] at hM
  refine qm <| Qf ((List.replicate 32 (0 : Int)).flatMap (ci .i64)) hS Tryd.zeroValue146 rfl rfl fun w L1 M6 MO hS => qB <| zj (fun a w => ∃ (L6 : (List Int)) (Mc : qk), Ss 38 [] [(2, qL LZ 0), (4, qL L1 0)] H [L7, Mc] F a w ∧ (L6.length = 32) ∧ (xJ Mc L1 (L6.flatMap (ci .i64)) 146) ∧ (zq.j5 K LY L6).wp kr kp) (fun Ng MS => ?_) ?_
  ·refine wp_seq ?_
   refine zN <| sM hS rfl fun hS => qB <| xO <| zu (fun M0 a w => ∃ (Ma : (List Int)) (Ms : qk) (Mt : Int), Ss 38 [] [(2, qL LZ 0), (4, qL L1 0), (28, .int .i64 Mt)] H [L7, Ms] F a w ∧ (Ma.length = 32) ∧ (xJ Ms L1 (Ma.flatMap (ci .i64)) 146) ∧ (zq.l4 K LY M0 Ma Mt).wp kr kp) K ?_ ?_ ?_
   ·exact ⟨(List.replicate 32 (0 : Int)), M6, (0 : Int), hS.to [1, 0] (by kernel_rfl) ⟨rfl, rfl, rfl, trivial⟩, (List.length_replicate ..), MO, hM⟩
   ·intro a w hI; obtain ⟨_, _, _, _, _, _, hM⟩ := hI; exact zt hM
   ·intro M0 a w hI Nf MR
    obtain ⟨Ma, Ms, Mt, hS, Mj, Mw, hM⟩ := hI
    rw [zq.l4] at hM
    refine qm <| sB hS rfl fun hS => qB <| wp_seq <| qG hS rfl hM (fun MW hM => ?_) (fun MW hM => ?_)
    ·refine wp_skip ?_
     refine qe <| wp_seq <| xO <| qm <| sM hS rfl fun hS => sA hS rfl fun hS => qB <| zN <| sM hS rfl fun hS => ?_
     obtain ⟨Mz, hM⟩ := qK hM
     refine sO hS (VA rfl rfl Tryd.runUnderlying146 Tryd.sizeOf3 Mz) rfl fun hS => Dv (xs := Ma) (g := (ci .i64)) (pre := []) (post := []) 1 ((5 : Int)) hS rfl rfl Mw rfl (by simp) rfl (fun _ => rfl) (y3 Mj Mz) rfl Tryd.sizeOf3 (xH _) fun Mn w MI hz Mf hS => ?_
     have MZ : Mn.length = 32 := by rw [hz, List.length_set]; exact Mj
     have hM := qy hz hM; clear hz
     replace Mf : xJ MI L1 (Mn.flatMap (ci .i64)) 146 := by simpa using Mf
     refine zp <| zy (qe ?_)
     refine zN <| sB hS rfl fun hS => sM hS rfl fun hS => zp <| qe ?_
     exact MR _ _ ⟨Mn, MI, (qh (Mt + (1 : Int))), hS.to [0, 1] (by kernel_rfl) ⟨rfl, rfl, rfl, trivial⟩, MZ, Mf, hM⟩
    ·refine wp_exit ?_
     refine qE (qE (ze (qe ?_)))
     exact MS _ _ ⟨Ma, Ms, hS.to [0, 1] (by kernel_rfl) ⟨rfl, rfl, trivial⟩, Mj, Mw, hM⟩
  ·intro a w hI
   obtain ⟨L6, Mc, hS, Mk, MP, hM⟩ := hI
   rw [zq.j5] at hM
   refine wp_seq <| za (vals := [some (.slice (some ⟨LZ, 0, none⟩) LY.length (288)), none, some (.slice (some ⟨L1, 0, none⟩) L6.length (32)), none, none, none]) hS xE rfl ?_
   intro l w ho hcl hA hst
   refine y9 hA hst ho hcl xx xF 1 [0, 2] rfl rfl rfl rfl rfl (by exact ⟨nQ rfl (by exact qX (G6 rfl Tryd.runUnderlying145 Tryd.sizeOf3 MA rfl) rfl), nQ rfl (by exact qX (G6 rfl Tryd.runUnderlying146 Tryd.sizeOf3 Mk rfl) rfl), trivial⟩) fun D l a w ho hcl hav hpre hm hE hk hA hst => ?_
   have hS := (Ss.mk hE hst).env2 (e' := [(34, .slice (some ⟨LZ, 0, none⟩) LY.length (288))]) ⟨rfl, trivial⟩
   refine qQ rfl <| qF hS rfl Tryd.call83 (yV hG K LY (some ⟨LZ, 0, none⟩) (288) (MN.rdF (i := 0) rfl rfl) (Nat.le_of_eq MA) (hS.st.part 0 [0, 1] (by kernel_rfl)) (qs hM) (fun Mb M9 MB w hM M7 hst => qA hS.ev hst.appF rfl fun hS => ?_) (fun v w hk hst => xo (qD (qD (⟨hS.ev.defs, hpan _ _ hk hst.appF.frame⟩)))))
   replace hS : Ss _ _ _ H [MB, L7, Mc] F _ _ := hS
   refine qB ?_
   replace hst := hS.st
   obtain ⟨hcl, hmust, hav2, hA⟩ := dn (vals' := [some (.slice (some ⟨LZ, 0, none⟩) LY.length (288)), some (.pointer Mb), some (.slice (some ⟨L1, 0, none⟩) L6.length (32)), none, none, none]) 1 [(0, 1)] hA hcl hav hm hpre hk rfl rfl rfl rfl rfl rfl rfl
   clear hm hav
   refine y9 hA hst ho hcl hav2 hmust 3 [2] rfl rfl rfl rfl rfl (by exact ⟨nQ rfl (by exact qX (G6 rfl Tryd.runUnderlying146 Tryd.sizeOf3 Mk rfl) rfl), trivial⟩) fun D l a w ho hcl hav hpre hm hE hk hA hst => ?_
   have hS := (Ss.mk hE hst).env2 (e' := [(36, .slice (some ⟨L1, 0, none⟩) L6.length (32))]) ⟨rfl, trivial⟩
   refine qQ rfl <| qF hS rfl Tryd.call83 (yV hG K L6 (some ⟨L1, 0, none⟩) (32) (MP.rdF (i := 2) rfl rfl) (Nat.le_of_eq Mk) (hS.st.part 0 [0, 1, 2] (by kernel_rfl)) (qs hM) (fun Mp Na MJ w hM M8 hst => qA hS.ev hst.appF rfl fun hS => ?_) (fun v w hk hst => xo (qD (qD (⟨hS.ev.defs, hpan _ _ hk hst.appF.frame⟩)))))
   replace hS : Ss _ _ _ H [MJ, MB, L7, Mc] F _ _ := hS
   refine qB ?_
   replace hst := hS.st
   obtain ⟨hcl, hmust, hav2, hA⟩ := dn (vals' := [some (.slice (some ⟨LZ, 0, none⟩) LY.length (288)), some (.pointer Mb), some (.slice (some ⟨L1, 0, none⟩) L6.length (32)), some (.pointer Mp), some (.pointer Mb), some (.pointer Mp)]) 3 [(1, 3), (2, 3), (0, 1)] hA hcl hav hm hpre hk rfl rfl rfl rfl rfl rfl rfl
   clear hm hav
   refine yk hA hst ho hcl hmust [4, 5] rfl rfl rfl (by exact ⟨nA rfl, nA rfl, trivial⟩) fun a w hS => ?_
   replace hS := hS.env2 (e' := [(0, .pointer Mb), (1, .pointer Mp)]) ⟨rfl, rfl, trivial⟩
   refine qe <| wp_ret ?_
   exact zD (rs := [0, 1]) hS rfl rfl (hret Mb M9 MB Mp Na MJ _ (q7 hM) M7 M8 (hS.st.pick [1, 0] (by kernel_rfl)))
theorem QU {H : xR} {F : List qk} {w : World} {R : Ending → World → Prop} {kr : (Int × Int × Int) → Prop} {kp : Value → Prop} (hG : Gl H) (K : Nat) (L4 : qI) (LY : qH) (Ms : Nat) (Ma : qk) (Mr : Option Addr) (Mt : Nat) (Mb : qk) (L5 : Nat) (Mu : qk) (Mh : xJ Ma Ms ((L4.counts_.flatMap (ci .i64)) ++ [.slice Mr L4.symbols_.length Mt]) 160) (Mi : L4.counts_.length = 16) (Mm : xi 3 (ci .i64) 1 Mr L4.symbols_ Mt Mb) (Mj : xJ Mu L5 ([.int .i64 LY.place_.at_, xf LY.text_]) 118)
    (hS : St w H [Ma, Mb, Mu] F) (hm : (z7.m K L4 LY).wp kr kp)
    (hret : ∀ (MM : Int) (MN : Int) (Me : Int) (MA : qk) (w : World), kr (MM, MN, Me) → (xJ MA L5 ([.int .i64 Me, xf LY.text_]) 118) → St w H [MA, Ma, Mb] F → R (.returned (.tuple ⟨[.int .i64 MM, .int .i64 MN]⟩)) w) :
    Calls Tryd.prog 90 ⟨[qL Ms 0, qL L5 0]⟩ w R := by
 refine enter Tryd.func90 rfl Tryd.ntmps90 rfl hS fun a w hS => ?_
 have hM := hm; clear hm
 rw [z7.m] at hM
 refine qm <| sA hS rfl fun hS => sA hS rfl fun hS => qB <| wp_seq <| qm <| sM hS rfl fun hS => sO hS (Xz rfl rfl Tryd.runUnderlying120) rfl fun hS => sM hS rfl fun hS => z2 hS rfl rfl rfl rfl (mv rfl) rfl fun a w hS => z2 hS rfl rfl rfl rfl (Xz rfl rfl Tryd.runUnderlying94) rfl fun a w hS => sO hS (pk rfl rfl rfl) rfl fun hS => qB <| Xl hS rfl <| wp_skip <| qe <| qm <| sM hS rfl fun hS => sO hS (yw rfl) rfl fun hS => sO hS (ut 2 rfl Mj rfl ([.int .i64 LY.place_.at_, xf LY.text_]) rfl rfl Tryd.isAgg118 Tryd.sizeOf118) rfl fun hS => Qf ([.int .i64 (0 : Int), xf ([] : List UInt8)]) hS Tryd.zeroValue118 rfl rfl fun w Mz MV MB hS => Qs 0 ([.int .i64 LY.place_.at_, xf LY.text_]) ([.int .i64 LY.place_.at_, xf LY.text_]) hS rfl rfl MB rfl rfl Tryd.sizeOf118 (by simp [Value.oneCell']) (Nat.le_of_ble_eq_true rfl) rfl fun w Mv Mk hS => qB <| qm <| sA hS rfl fun hS => sA hS rfl fun hS => sA hS rfl fun hS => qB <| zj (fun a w => ∃ (L8 : Int) (Mx : qk), Ss 81 [] [(1, qL L5 0), (6, qL Mz 0)] H [Mx, Ma, Mb, Mv] F a w ∧ (xJ Mx L5 ([.int .i64 L8, xf LY.text_]) 118) ∧ (z7.j2 K LY L8).wp kr kp) (fun MU MG => ?_) ?_
 ·refine wp_seq ?_
  refine zN <| sA hS rfl fun hS => qB <| xO <| zu (fun MK a w => ∃ (L3 : Int) (Mf : qk) (L1 : Int) (L0 : Int) (LZ : Int) (L7 : Int), Ss 81 [] [(0, qL Ms 0), (1, qL L5 0), (6, qL Mz 0), (7, .int .i64 L1), (8, .int .i64 L0), (9, .int .i64 LZ), (10, .int .i64 L7)] H [Mf, Ma, Mb, Mv] F a w ∧ (xJ Mf L5 ([.int .i64 L3, xf LY.text_]) 118) ∧ (z7.l1 K L4 LY MK L3 L1 L0 LZ L7).wp kr kp) K ?_ ?_ ?_
  ·exact ⟨LY.place_.at_, Mu, (0 : Int), (0 : Int), (0 : Int), (1 : Int), hS.to [3, 1, 2, 0] (by kernel_rfl) ⟨rfl, rfl, rfl, rfl, rfl, rfl, rfl, trivial⟩, Mj, hM⟩
  ·intro a w hI; obtain ⟨_, _, _, _, _, _, _, _, hM⟩ := hI; exact zt hM
  ·intro MK a w hI MT MF
   obtain ⟨L3, Mf, L1, L0, LZ, L7, hS, Ml, hM⟩ := hI
   rw [z7.l1] at hM
   refine wp_seq <| qm <| sM hS rfl fun hS => sM hS rfl fun hS => sO hS (yw rfl) rfl fun hS => sO hS (xv rfl Tryd.runUnderlying160 rfl Tryd.sizeOf66 rfl) rfl fun hS => sO hS (Li 1 rfl Mh rfl (by rfl) (xg (g := (ci .i64)) (sz := 1) (fun _ => rfl) Mi) Tryd.isAgg66) rfl fun hS => sO hS (yj rfl Tryd.runUnderlying66) rfl fun hS => sB hS rfl fun hS => qB <| qG hS rfl hM (fun MH hM => ?_) (fun MH hM => ?_)
   ·refine wp_skip ?_
    refine qe <| wp_seq <| xO <| qm <| sM hS rfl fun hS => qF hS rfl Tryd.call78 (vn hG K (qH.mk (qr.mk L3) LY.text_) (1 : Int) L5 Mf Ml (hS.st.part 1 [0, 1, 2, 3] (by kernel_rfl)) (qs hM) (fun MR MS Md Mw w hM My hst => qA hS.ev hst.appF rfl fun hS => ?_))
    replace hS : Ss _ _ _ H [Mw, Ma, Mb, Mv] F _ _ := hS
    refine sM hS rfl fun hS => sO hS (ex rfl rfl) rfl fun hS => sO hS (ex rfl rfl) rfl fun hS => sA hS rfl fun hS => sA hS rfl fun hS => qB <| wp_seq <| qm <| sM hS rfl fun hS => sB hS rfl fun hS => qB <| qG hS rfl hM (fun MI hM => ?_) (fun MI hM => ?_)
    ·refine wp_seq ?_
     refine zN <| sM hS rfl fun hS => sO hS (ut 3 rfl Mk rfl ([.int .i64 LY.place_.at_, xf LY.text_]) rfl rfl Tryd.isAgg118 Tryd.sizeOf118) rfl fun hS => sO hS (yw rfl) rfl fun hS => Qs 0 ([.int .i64 LY.place_.at_, xf LY.text_]) ([.int .i64 LY.place_.at_, xf LY.text_]) hS rfl rfl My rfl rfl Tryd.sizeOf118 (by simp [Value.oneCell']) (Nat.le_of_ble_eq_true rfl) rfl fun w MO MC hS => qB <| qm <| sM hS rfl fun hS => sA hS rfl fun hS => sA hS rfl fun hS => qB <| wp_ret <| zm (x3 (zm (zm (x3 (zm ?_)))))
     exact zD (rs := [4, 5]) hS rfl rfl (hret (0 : Int) MS LY.place_.at_ MO _ (q7 hM) MC (hS.st.pick [0, 1, 2] (by kernel_rfl)))
    ·refine wp_skip ?_
     refine qe <| qm <| sM hS rfl fun hS => sO hS (shl rfl rfl rfl) rfl fun hS => sM hS rfl fun hS => sO hS (vU rfl Tryd.runUnderlying25 Tryd.runUnderlying3) rfl fun hS => sB hS rfl fun hS => zE (v := Value.int .i64) (x0 := (Qo .i64 (z6 .i64 L1 (1 : Int)) (wr .i64 MR))) hS (xy rfl) rfl fun L9 a w hz hS => ?_
     have hM := qy hz hM; clear hz
     refine qB <| qm <| sM hS rfl fun hS => sO hS (shl rfl rfl rfl) rfl fun hS => zE (v := Value.int .i64) (x0 := (z6 .i64 L0 (1 : Int))) hS (xy rfl) rfl fun L6 a w hz hS => ?_
     have hM := qy hz hM; clear hz
     refine qB <| qm <| sM hS rfl fun hS => sM hS rfl fun hS => sO hS (yw rfl) rfl fun hS => sO hS (xv rfl Tryd.runUnderlying160 rfl Tryd.sizeOf127 rfl) rfl fun hS => ?_
     obtain ⟨Mn, hM⟩ := qK hM
     refine sO hS (VA rfl rfl Tryd.runUnderlying127 Tryd.sizeOf3 Mn) rfl fun hS => sO hS (GO (xs := L4.counts_) (g := (ci .i64)) (pre := []) (post := [.slice Mr L4.symbols_.length Mt]) 1 rfl Mh rfl (by simp) rfl (fun _ => rfl) (y3 Mi Mn) rfl Tryd.isAgg3) rfl fun hS => zE (v := Value.int .i64) (x0 := (rd L4.counts_ L7)) hS (xy rfl) rfl fun Mq a w hz hS => ?_
     have hM := qy hz hM; clear hz
     refine qB <| wp_seq <| qm <| sM hS rfl fun hS => sM hS rfl fun hS => sB hS rfl fun hS => sM hS rfl fun hS => sB hS rfl fun hS => qB <| qG hS rfl hM (fun MJ hM => ?_) (fun MJ hM => ?_)
     ·refine wp_seq ?_
      refine zN <| sM hS rfl fun hS => sO hS (yw rfl) rfl fun hS => sO hS (xv rfl Tryd.runUnderlying160 rfl Tryd.sizeOf66 rfl) rfl fun hS => sO hS (Li 1 rfl Mh rfl (by rfl) (xg (g := (ci .i64)) (sz := 1) (fun _ => rfl) Mi) Tryd.isAgg66) rfl fun hS => sM hS rfl fun hS => sM hS rfl fun hS => sB hS rfl fun hS => sM hS rfl fun hS => sB hS rfl fun hS => ?_
      obtain ⟨Mp, hM⟩ := qK hM
      refine sO hS (yu rfl rfl Tryd.runUnderlying66 Tryd.sizeOf3 (Mm.rd (i := 2) rfl) (fun _ => rfl) rfl Mp) rfl fun hS => sO hS (yD rfl (Mm.rd (i := 2) rfl) (fun _ => rfl) Mp rfl Tryd.isAgg3) rfl fun hS => zE (v := Value.int .i64) (x0 := (rd L4.symbols_ (qh ((qh (LZ + L9)) - L6)))) hS (xy rfl) rfl fun MQ a w hz hS => ?_
      have hM := qy hz hM; clear hz
      refine sA hS rfl fun hS => qB <| wp_ret <| zm (x3 (zm (zm (x3 (zm ?_)))))
      exact zD (rs := [4, 5]) hS rfl rfl (hret MQ (0 : Int) Md Mw _ (q7 hM) My (hS.st.pick [0, 1, 2] (by kernel_rfl)))
     ·refine wp_skip ?_
      refine qe <| qm <| sM hS rfl fun hS => sM hS rfl fun hS => sB hS rfl fun hS => zE (v := Value.int .i64) (x0 := (qh (L6 + Mq))) hS (xy rfl) rfl fun Mg a w hz hS => ?_
      have hM := qy hz hM; clear hz
      refine qB <| zN <| sM hS rfl fun hS => sM hS rfl fun hS => sB hS rfl fun hS => zE (v := Value.int .i64) (x0 := (qh (LZ + Mq))) hS (xy rfl) rfl fun Mc a w hz hS => ?_
      have hM := qy hz hM; clear hz
      refine zp <| zy (qe ?_)
      refine zN <| sM hS rfl fun hS => sB hS rfl fun hS => zE (v := Value.int .i64) (x0 := (qh (L7 + (1 : Int)))) hS (xy rfl) rfl fun ML a w hz hS => ?_
      have hM := qy hz hM; clear hz
      refine zp <| qe ?_
      exact MF _ _ ⟨Md, Mw, L9, Mg, Mc, ML, hS.to [0, 1, 2, 3] (by kernel_rfl) ⟨rfl, rfl, rfl, rfl, rfl, rfl, rfl, trivial⟩, My, hM⟩
   ·refine wp_exit ?_
    refine qE (qE (ze (qe ?_)))
    exact MG _ _ ⟨L3, Mf, hS.to [0, 1, 2, 3] (by kernel_rfl) ⟨rfl, rfl, trivial⟩, Ml, hM⟩
 ·intro a w hI
  obtain ⟨L8, Mx, hS, MD, hM⟩ := hI
  rw [z7.j2] at hM
  refine qm <| sM hS rfl fun hS => sO hS (ut 3 rfl Mk rfl ([.int .i64 LY.place_.at_, xf LY.text_]) rfl rfl Tryd.isAgg118 Tryd.sizeOf118) rfl fun hS => sO hS (yw rfl) rfl fun hS => Qs 0 ([.int .i64 LY.place_.at_, xf LY.text_]) ([.int .i64 LY.place_.at_, xf LY.text_]) hS rfl rfl MD rfl rfl Tryd.sizeOf118 (by simp [Value.oneCell']) (Nat.le_of_ble_eq_true rfl) rfl fun w MP ME hS => qB <| qm <| sA hS rfl fun hS => sA hS rfl fun hS => qB <| wp_ret ?_
  exact zD (rs := [4, 5]) hS rfl rfl (hret (0 : Int) (3 : Int) LY.place_.at_ MP _ (q7 hM) ME (hS.st.pick [0, 1, 2] (by kernel_rfl)))
theorem yM {H : xR} {F : List qk} {w : World} {R : Ending → World → Prop} {kr : (Int × Int) → Prop} {kp : Value → Prop} (hG : Gl H) (K : Nat) (LY : qx) (L1 : qI) (Me : Nat) (L4 : qk) (L6 : Nat) (Mb : qk) (Md : Option Addr) (Mf : Nat) (L5 : qk) (L9 : Nat) (LZ : qk) (L7 : Option Addr) (Ma : Nat) (L0 : qk) (Mh : xJ L4 Me ([qL L6 0, .slice Md LY.out_.length Mf, .int .i64 LY.limit_]) 97) (Mi : xJ Mb L6 ([.int .i64 LY.Reader_.place_.at_, xf LY.Reader_.text_]) 118) (Mr : xi 5 (ci .u8) 1 Md LY.out_ Mf L5) (Mj : xJ LZ L9 ((L1.counts_.flatMap (ci .i64)) ++ [.slice L7 L1.symbols_.length Ma]) 160) (Ml : L1.counts_.length = 16) (Mk : xi 3 (ci .i64) 1 L7 L1.symbols_ Ma L0)
    (hS : St w H [L4, Mb, L5, LZ, L0] F) (hm : (xI.m K LY L1).wp kr kp)
    (hret : ∀ (Mm : Int) (L3 : Int) (Mg : qk) (w : World), kr (Mm, L3) → (xJ Mg L6 ([.int .i64 L3, xf LY.Reader_.text_]) 118) → St w H [LZ, L0, L4, Mg, L5] F → R (.returned (.int .i64 Mm)) w)
    (hpan : ∀ v w, kp v → St w H [] F → R (.panicked [⟨v, false, false⟩]) w) :
    Calls Tryd.prog 81 ⟨[qL Me 0, qL L9 0]⟩ w R := by
 refine enter Tryd.func81 rfl Tryd.ntmps81 rfl hS fun a w hS => ?_
 have hM := hm; clear hm
 rw [xI.m] at hM
 refine qm <| sA hS rfl fun hS => qB <| qm <| sM hS rfl fun hS => sM hS rfl fun hS => sO hS (yw rfl) rfl fun hS => sO hS (xv rfl Tryd.runUnderlying97 rfl Tryd.sizeOf94 rfl) rfl fun hS => sO hS (xY 0 rfl Mh rfl rfl Tryd.isAgg94) rfl fun hS => qF hS rfl Tryd.call90 (QU hG K L1 LY.Reader_ L9 LZ L7 Ma L0 L6 Mb Mj Ml Mk Mi (hS.st.part 3 [3, 4, 1, 0, 2] (by kernel_rfl)) (qs hM) (fun Mp Mq L8 Mc w hM Mn hst => qA hS.ev hst.appF rfl fun hS => ?_))
 replace hS : Ss _ _ _ H [Mc, LZ, L0, L4, L5] F _ _ := hS
 refine sM hS rfl fun hS => sO hS (ex rfl rfl) rfl fun hS => sO hS (ex rfl rfl) rfl fun hS => sA hS rfl fun hS => sA hS rfl fun hS => qB <| qm <| sM hS rfl fun hS => qF hS rfl Tryd.call79 (jB hG K Mq (hS.st.part 0 [0, 1, 2, 3, 4] (by kernel_rfl)) (qs hM) (fun  w hM  hst => qA hS.ev hst.appF rfl fun hS => ?_) (fun v w hk hst => xo (qD (⟨hS.ev.defs, hpan _ _ hk hst.appF.frame⟩))))
 replace hS : Ss _ _ _ H [Mc, LZ, L0, L4, L5] F _ _ := hS
 refine qB <| qm <| sM hS rfl fun hS => sA hS rfl fun hS => qB <| wp_ret ?_
 exact zD (rs := [4]) hS rfl rfl (hret Mp L8 Mc _ (q7 hM) Mn (hS.st.pick [1, 2, 3, 0, 4] (by kernel_rfl)))
theorem jX {H : xR} {F : List qk} {w : World} {R : Ending → World → Prop} {kr : (Int × Int) → Prop} {kp : Value → Prop} (hG : Gl H) (K : Nat) (LZ : qx) (LY : xA) (L0 : Nat) (L3 : qk) (L6 : Nat) (Mc : qk) (L9 : Option Addr) (Mb : Nat) (L4 : qk) (Mh : xJ L3 L0 ([qL L6 0, .slice L9 LZ.out_.length Mb, .int .i64 LZ.limit_]) 97) (Mi : xJ Mc L6 ([.int .i64 LZ.Reader_.place_.at_, xf LZ.Reader_.text_]) 118) (Mj : xi 5 (ci .u8) 1 L9 LZ.out_ Mb L4)
    (hS : St w H [L3, Mc, L4] F) (hm : (x7.m K LZ LY).wp kr kp)
    (hret : ∀ (Mk : Int) (L1 : Int) (Mg : qk) (w : World), kr (Mk, L1) → (xJ Mg L6 ([.int .i64 L1, xf LZ.Reader_.text_]) 118) → St w H [L3, Mg, L4] F → R (.returned (.int .i64 Mk)) w)
    (hpan : ∀ v w, kp v → St w H [] F → R (.panicked [⟨v, false, false⟩]) w) :
    Calls Tryd.prog 82 ⟨[qL L0 0, .agg ⟨[.int .i64 LY.from_, .int .i64 LY.bits_]⟩]⟩ w R := by
 refine enter Tryd.func82 rfl Tryd.ntmps82 rfl hS fun a w hS => ?_
 have hM := hm; clear hm
 rw [x7.m] at hM
 refine qm <| bx ([.int .i64 LY.from_, .int .i64 LY.bits_]) hS rfl rfl rfl fun w L7 Ml L5 hS => sA hS rfl fun hS => qB <| wp_seq <| za (vals := [some (qL L7 0), some (.int .i64 LY.from_), some (qL L0 0), some (qL L7 1), some (.int .i64 LY.bits_), none, none, none]) hS xE rfl ?_
 intro l w ho hcl hA hst
 refine y9 hA hst ho hcl xx xF 5 [0, 1, 2, 3, 4] rfl rfl rfl rfl rfl (by exact ⟨nQ rfl (by exact qX (xv rfl Tryd.runUnderlying142 rfl Tryd.sizeOf3 rfl) rfl), nQ rfl (by exact qX (xY 0 rfl L5 rfl rfl Tryd.isAgg3) rfl), nM rfl, nQ rfl (by exact qX (xv rfl Tryd.runUnderlying142 rfl Tryd.sizeOf3 rfl) rfl), nQ rfl (by exact qX (xY 0 rfl L5 rfl rfl Tryd.isAgg3) rfl), trivial⟩) fun D l a w ho hcl hav hpre hm hE hk hA hst => ?_
 have hS := (Ss.mk hE hst).env2 (e' := [(7, qL L0 0), (9, .int .i64 LY.bits_)]) ⟨rfl, rfl, trivial⟩
 refine qQ rfl <| qF hS rfl Tryd.call60 (z3 hG K LZ LY.bits_ L0 L3 L6 Mc L9 Mb L4 Mh Mi Mj (hS.st.part 3 [1, 2, 3, 0] (by kernel_rfl)) (qs hM) (fun Me Ma Mf w hM Mm hst => qA hS.ev hst.appF rfl fun hS => ?_) (fun v w hk hst => xo (qD (qD (⟨hS.ev.defs, hpan _ _ hk hst.appF.frame⟩)))))
 replace hS : Ss _ _ _ H [L3, Mf, L4, Ml] F _ _ := hS
 refine qB ?_
 replace hst := hS.st
 obtain ⟨Md, L8⟩ : ∃ x, x = (qh (LY.from_ + Me)) := ⟨_, rfl⟩
 replace hM := qy L8 hM
 obtain ⟨hcl, hmust, hav2, hA⟩ := dn (vals' := [some (qL L7 0), some (.int .i64 LY.from_), some (qL L0 0), some (qL L7 1), some (.int .i64 LY.bits_), some (.int .i64 Me), some (.int .i64 (qh (LY.from_ + Me))), some (.int .i64 Md)]) 5 [(2, 5), (4, 5), (3, 4)] hA hcl hav hm hpre hk rfl rfl rfl rfl rfl rfl rfl
 clear hm hav
 refine yk hA hst ho hcl hmust [0, 1, 6, 7] rfl rfl rfl (by exact ⟨nQ rfl (by exact qX (xv rfl Tryd.runUnderlying142 rfl Tryd.sizeOf3 rfl) rfl), nQ rfl (by exact qX (xY 3 rfl L5 rfl rfl Tryd.isAgg3) rfl), nB rfl, nQ rfl (by exact qX (xy rfl) (congrArg (Value.int .i64) L8.symm)), trivial⟩) fun a w hS => ?_
 replace hS := hS.env2 (e' := [(4, .int .i64 Md)]) ⟨rfl, trivial⟩
 refine qe <| wp_ret ?_
 exact zD (rs := [4]) hS rfl rfl (hret Md Ma Mf _ (q7 hM) Mm (hS.st.pick [0, 1, 2] (by kernel_rfl)))
theorem jn {H : xR} {F : List qk} {w : World} {R : Ending → World → Prop} {kr : (Int × (List Int)) → Prop} {kp : Value → Prop} (hG : Gl H) (K : Nat) (L4 : qx) (L3 : qI) (L7 : qI) (LZ : Nat) (M7 : qk) (Mh : Nat) (M8 : qk) (MZ : Option Addr) (M4 : Nat) (M9 : qk) (Ms : Nat) (Mc : qk) (M0 : Option Addr) (M5 : Nat) (Md : qk) (Mt : Nat) (Me : qk) (M3 : Option Addr) (M6 : Nat) (Mf : qk) (Nv : xJ M7 LZ ([qL Mh 0, .slice MZ L4.out_.length M4, .int .i64 L4.limit_]) 97) (Nw : xJ M8 Mh ([.int .i64 L4.Reader_.place_.at_, xf L4.Reader_.text_]) 118) (NA : xi 5 (ci .u8) 1 MZ L4.out_ M4 M9) (Nx : xJ Mc Ms ((L3.counts_.flatMap (ci .i64)) ++ [.slice M0 L3.symbols_.length M5]) 160) (ND : L3.counts_.length = 16) (NB : xi 3 (ci .i64) 1 M0 L3.symbols_ M5 Md) (Ny : xJ Me Mt ((L7.counts_.flatMap (ci .i64)) ++ [.slice M3 L7.symbols_.length M6]) 160) (NE : L7.counts_.length = 16) (NC : xi 3 (ci .i64) 1 M3 L7.symbols_ M6 Mf)
    (hS : St w H [M7, M8, M9, Mc, Md, Me, Mf] F) (hm : (qU.m K L4 L3 L7).wp kr kp)
    (hret : ∀ (MA : Int) (MV : qk) (MR : Option Addr) (MT : Nat) (Mp : (List Int)) (MW : qk) (MX : qk) (w : World), kr (MA, Mp) → (xJ MV Mh ([.int .i64 MA, xf L4.Reader_.text_]) 118) → (xi 5 (ci .u8) 1 MR Mp MT MW) → (xJ MX LZ ([qL Mh 0, .slice MR Mp.length MT, .int .i64 L4.limit_]) 97) → St w H [Me, Mf, Mc, Md, MX, MV, MW] F → R (.returned (.tuple ⟨[]⟩)) w)
    (hpan : ∀ v w, kp v → St w H [] F → R (.panicked [⟨v, false, false⟩]) w) :
    Calls Tryd.prog 62 ⟨[qL LZ 0, qL Ms 0, qL Mt 0]⟩ w R := by
 refine enter Tryd.func62 rfl Tryd.ntmps62 rfl hS fun a w hS => ?_
 have hM := hm; clear hm
 rw [qU.m] at hM
 refine xO <| zu (fun Nn a w => ∃ (Mm : Int) (MP : qk) (Mg : Option Addr) (Mi : Nat) (L0 : (List Int)) (Ma : qk) (Mb : qk), Ss 108 [] [(0, qL LZ 0), (1, qL Ms 0), (2, qL Mt 0)] H [Me, Mf, Mc, Md, Mb, MP, Ma] F a w ∧ (xJ MP Mh ([.int .i64 Mm, xf L4.Reader_.text_]) 118) ∧ (xi 5 (ci .u8) 1 Mg L0 Mi Ma) ∧ (xJ Mb LZ ([qL Mh 0, .slice Mg L0.length Mi, .int .i64 L4.limit_]) 97) ∧ (qU.l1 K L4 L3 L7 Nn Mm L0).wp kr kp) K ?_ ?_ ?_
 ·exact ⟨L4.Reader_.place_.at_, M8, MZ, M4, L4.out_, M9, M7, hS.to [5, 6, 3, 4, 0, 1, 2] (by kernel_rfl) ⟨rfl, rfl, rfl, trivial⟩, Nw, NA, Nv, hM⟩
 ·intro a w hI; obtain ⟨_, _, _, _, _, _, _, _, _, _, _, hM⟩ := hI; exact zt hM
 ·intro Nn a w hI NH MH
  obtain ⟨Mm, MP, Mg, Mi, L0, Ma, Mb, hS, Nz, Mk, L8, hM⟩ := hI
  rw [qU.l1] at hM
  refine xO <| qm <| sM hS rfl fun hS => sM hS rfl fun hS => qF hS rfl Tryd.call81 (yM hG K (qx.mk (qH.mk (qr.mk Mm) L4.Reader_.text_) L0 L4.limit_) L3 LZ Mb Mh MP Mg Mi Ma Ms Mc M0 M5 Md L8 Nz Mk Nx ND NB (hS.st.part 5 [4, 5, 6, 2, 3, 0, 1] (by kernel_rfl)) (qs hM) (fun Mq Mx ME w hM MG hst => qA hS.ev hst.appF rfl fun hS => ?_) (fun v w hk hst => xo (qD (zR (qD (zR (⟨hS.ev.defs, hpan _ _ hk hst.appF.frame⟩)))))))
  replace hS : Ss _ _ _ H [Mc, Md, Mb, ME, Ma, Me, Mf] F _ _ := hS
  refine sA hS rfl fun hS => qB <| wp_seq <| xO <| qm <| sM hS rfl fun hS => sB hS rfl fun hS => zE (v := Value.bool) (x0 := (Mq == (256 : Int))) hS (xy rfl) rfl fun NL a w hz hS => ?_
  have hM := qy hz hM; clear hz
  refine qB <| qG hS rfl hM (fun Ni hM => ?_) (fun Ni hM => ?_)
  ·refine wp_ret ?_
   refine x3 (zm (x3 (zm (x3 ?_))))
   exact zD (rs := []) hS rfl rfl (hret Mx ME Mg Mi L0 Ma Mb _ (q7 hM) MG Mk L8 (hS.st.pick [5, 6, 0, 1, 2, 3, 4] (by kernel_rfl)))
  ·refine wp_seq ?_
   refine zN <| sM hS rfl fun hS => sB hS rfl fun hS => zE (v := Value.bool) (x0 := (decide (Mq < (256 : Int)))) hS (xy rfl) rfl fun NM a w hz hS => ?_
   have hM := qy hz hM; clear hz
   refine qB <| qG hS rfl hM (fun Nj hM => ?_) (fun Nj hM => ?_)
   ·refine wp_seq ?_
    refine za (vals := [some (qL LZ 0), some (qL LZ 0), some (qL LZ 1), some (.slice Mg L0.length Mi), some (.int .i64 (L0.length : Int)), some (qL LZ 0), some (qL LZ 0), some (qL LZ 2), some (.int .i64 L4.limit_), some (.bool ((L0.length : Int) == L4.limit_)), none]) hS xE rfl ?_
    intro l w ho hcl hA hst
    refine y9 hA hst ho hcl xx xF 10 [0, 1, 2, 3, 4, 5, 6, 7, 8, 9] rfl rfl rfl rfl rfl (by exact ⟨nM rfl, nQ rfl (by exact qX (yw rfl) rfl), nQ rfl (by exact qX (xv rfl Tryd.runUnderlying97 rfl Tryd.sizeOf32 rfl) rfl), nQ rfl (by exact qX (xY 2 rfl L8 rfl rfl Tryd.isAgg32) rfl), nQ rfl (by exact qX (yj rfl Tryd.runUnderlying32) rfl), nM rfl, nQ rfl (by exact qX (yw rfl) rfl), nQ rfl (by exact qX (xv rfl Tryd.runUnderlying97 rfl Tryd.sizeOf3 rfl) rfl), nQ rfl (by exact qX (xY 2 rfl L8 rfl rfl Tryd.isAgg3) rfl), nB rfl, trivial⟩) fun D l a w ho hcl hav hpre hm hE hk hA hst => ?_
    have hS := (Ss.mk hE hst).env2 (e' := [(28, .bool ((L0.length : Int) == L4.limit_))]) ⟨rfl, trivial⟩
    refine qQ rfl <| qF hS rfl Tryd.call65 (xb hG K ((L0.length : Int) == L4.limit_) (11 : Int) (hS.st.part 0 [0, 1, 2, 3, 4, 5, 6] (by kernel_rfl)) (qs hM) (fun  w hM  hst => qA hS.ev hst.appF rfl fun hS => ?_) (fun v w hk hst => xo (qD (qD (zR (qD (zR (qD (zR (⟨hS.ev.defs, hpan _ _ hk hst.appF.frame⟩))))))))))
    replace hS : Ss _ _ _ H [Mc, Md, Mb, ME, Ma, Me, Mf] F _ _ := hS
    refine qB ?_
    replace hst := hS.st
    obtain ⟨hcl, hmust, hav2, hA⟩ := dn (vals' := [some (qL LZ 0), some (qL LZ 0), some (qL LZ 1), some (.slice Mg L0.length Mi), some (.int .i64 (L0.length : Int)), some (qL LZ 0), some (qL LZ 0), some (qL LZ 2), some (.int .i64 L4.limit_), some (.bool ((L0.length : Int) == L4.limit_)), some (.tuple ⟨[]⟩)]) 10 [(9, 10), (4, 9), (8, 9), (3, 4), (7, 8), (2, 3), (6, 7), (1, 2), (5, 6), (0, 1)] hA hcl hav hm hpre hk rfl rfl rfl rfl rfl rfl rfl
    clear hm hav
    refine yk hA hst ho hcl hmust [] rfl rfl rfl trivial fun a w hS => ?_
    replace hS := hS.env2 (e' := [(0, qL LZ 0), (1, qL Ms 0), (2, qL Mt 0), (6, .int .i64 Mq)]) ⟨rfl, rfl, rfl, rfl, trivial⟩
    refine qe <| qm <| sM hS rfl fun hS => sM hS rfl fun hS => sO hS (yw rfl) rfl fun hS => sO hS (xv rfl Tryd.runUnderlying97 rfl Tryd.sizeOf32 rfl) rfl fun hS => sO hS (xY 2 rfl L8 rfl rfl Tryd.isAgg32) rfl fun hS => sM hS rfl fun hS => sO hS (vU rfl Tryd.runUnderlying3 Tryd.runUnderlying5) rfl fun hS => Y3 (g := (ci .u8)) ([(wr .u8 Mq)] : List Int) [.int .u8 (wr .u8 Mq)] hS Tryd.runUnderlying32 Tryd.sizeOf5 X.el5 rfl rfl rfl (by simp [Value.cells]) rfl rfl rfl rfl rfl fun w NF NI NJ Nd hS => ?_
    obtain ⟨Nl, hM⟩ := qK hM
    refine JA (ys := ([(wr .u8 Mq)] : List Int)) 5 hS rfl rfl Mk rfl (Nd.rd (i := 0) rfl) Tryd.runUnderlying32 Tryd.runUnderlying32 X.el5 (fun _ => rfl) rfl u3 Nl rfl fun MM w MQ MS No hz Nf hS => ?_
    have hM := qy hz hM; clear hz
    refine sO hS (yw rfl) rfl fun hS => sO hS (xv rfl Tryd.runUnderlying97 rfl Tryd.sizeOf32 rfl) rfl fun hS => JC 3 ([qL Mh 0, .slice MQ MM.length MS, .int .i64 L4.limit_]) hS rfl rfl L8 rfl rfl rfl rfl Tryd.sizeOf32 fun w Np Na hS => qB <| wp_exit <| Kv rfl (qE (ze (qe ?_)))
    exact MH _ _ ⟨Mx, ME, MQ, MS, MM, No, Np, hS.to [6, 7, 1, 2, 3, 4, 5] (by kernel_rfl) ⟨rfl, rfl, rfl, trivial⟩, MG, Nf, Na, hM⟩
   ·refine wp_skip ?_
    refine zy (qe ?_)
    refine qm <| sM hS rfl fun hS => sB hS rfl fun hS => qF hS rfl Tryd.call65 (xb hG K (decide (Mq ≥ (286 : Int))) (3 : Int) (hS.st.part 0 [0, 1, 2, 3, 4, 5, 6] (by kernel_rfl)) (qs hM) (fun  w hM  hst => qA hS.ev hst.appF rfl fun hS => ?_) (fun v w hk hst => xo (qD (zR (qD (zR (⟨hS.ev.defs, hpan _ _ hk hst.appF.frame⟩)))))))
    replace hS : Ss _ _ _ H [Mc, Md, Mb, ME, Ma, Me, Mf] F _ _ := hS
    refine qB <| qm <| sM hS rfl fun hS => sM hS rfl fun hS => sB hS rfl fun hS => ?_
    obtain ⟨MI, hM⟩ := qK hM
    refine sO hS (VA rfl rfl Tryd.runUnderlying143 Tryd.sizeOf142 MI) rfl fun hS => sO hS (GN rfl hG.g1 (fun _ => rfl) MI Tryd.isAgg142 Tryd.sizeOf142) rfl fun hS => qF hS rfl Tryd.call82 (jX hG K (qx.mk (qH.mk (qr.mk Mx) L4.Reader_.text_) L0 L4.limit_) (xA.mk ((rd tab_inflate_lengths (qh (Mq - (257 : Int)))).from_) ((rd tab_inflate_lengths (qh (Mq - (257 : Int)))).bits_)) LZ Mb Mh ME Mg Mi Ma L8 MG Mk (hS.st.part 3 [2, 3, 4, 0, 1, 5, 6] (by kernel_rfl)) (qs hM) (fun L9 MN MU w hM Ns hst => qA hS.ev hst.appF rfl fun hS => ?_) (fun v w hk hst => xo (qD (zR (qD (zR (⟨hS.ev.defs, hpan _ _ hk hst.appF.frame⟩)))))))
    replace hS : Ss _ _ _ H [Mb, MU, Ma, Mc, Md, Me, Mf] F _ _ := hS
    refine sA hS rfl fun hS => qB <| qm <| sM hS rfl fun hS => sM hS rfl fun hS => qF hS rfl Tryd.call81 (yM hG K (qx.mk (qH.mk (qr.mk MN) L4.Reader_.text_) L0 L4.limit_) L7 LZ Mb Mh MU Mg Mi Ma Mt Me M3 M6 Mf L8 Ns Mk Ny NE NC (hS.st.part 5 [0, 1, 2, 5, 6, 3, 4] (by kernel_rfl)) (qs hM) (fun ML MO MF w hM Nt hst => qA hS.ev hst.appF rfl fun hS => ?_) (fun v w hk hst => xo (qD (zR (qD (zR (⟨hS.ev.defs, hpan _ _ hk hst.appF.frame⟩)))))))
    replace hS : Ss _ _ _ H [Me, Mf, Mb, MF, Ma, Mc, Md] F _ _ := hS
    refine sA hS rfl fun hS => qB <| qm <| sM hS rfl fun hS => sB hS rfl fun hS => qF hS rfl Tryd.call65 (xb hG K (decide (ML ≥ (30 : Int))) (3 : Int) (hS.st.part 0 [0, 1, 2, 3, 4, 5, 6] (by kernel_rfl)) (qs hM) (fun  w hM  hst => qA hS.ev hst.appF rfl fun hS => ?_) (fun v w hk hst => xo (qD (zR (qD (zR (⟨hS.ev.defs, hpan _ _ hk hst.appF.frame⟩)))))))
    replace hS : Ss _ _ _ H [Me, Mf, Mb, MF, Ma, Mc, Md] F _ _ := hS
    refine qB <| qm <| sM hS rfl fun hS => sM hS rfl fun hS => ?_
    obtain ⟨MJ, hM⟩ := qK hM
    refine sO hS (VA rfl rfl Tryd.runUnderlying144 Tryd.sizeOf142 MJ) rfl fun hS => sO hS (GN rfl hG.g2 (fun _ => rfl) MJ Tryd.isAgg142 Tryd.sizeOf142) rfl fun hS => qF hS rfl Tryd.call82 (jX hG K (qx.mk (qH.mk (qr.mk MO) L4.Reader_.text_) L0 L4.limit_) (xA.mk ((rd tab_inflate_distances ML).from_) ((rd tab_inflate_distances ML).bits_)) LZ Mb Mh MF Mg Mi Ma L8 Nt Mk (hS.st.part 3 [2, 3, 4, 0, 1, 5, 6] (by kernel_rfl)) (qs hM) (fun L1 Mz Mv w hM Nu hst => qA hS.ev hst.appF rfl fun hS => ?_) (fun v w hk hst => xo (qD (zR (qD (zR (⟨hS.ev.defs, hpan _ _ hk hst.appF.frame⟩)))))))
    replace hS : Ss _ _ _ H [Mb, Mv, Ma, Me, Mf, Mc, Md] F _ _ := hS
    refine sA hS rfl fun hS => qB <| qm <| sM hS rfl fun hS => sM hS rfl fun hS => sO hS (yw rfl) rfl fun hS => sO hS (xv rfl Tryd.runUnderlying97 rfl Tryd.sizeOf32 rfl) rfl fun hS => sO hS (xY 0 rfl L8 rfl rfl Tryd.isAgg32) rfl fun hS => sO hS (yj rfl Tryd.runUnderlying32) rfl fun hS => sB hS rfl fun hS => qF hS rfl Tryd.call65 (xb hG K (decide (L1 > (L0.length : Int))) (3 : Int) (hS.st.part 0 [0, 1, 2, 3, 4, 5, 6] (by kernel_rfl)) (qs hM) (fun  w hM  hst => qA hS.ev hst.appF rfl fun hS => ?_) (fun v w hk hst => xo (qD (zR (qD (zR (⟨hS.ev.defs, hpan _ _ hk hst.appF.frame⟩)))))))
    replace hS : Ss _ _ _ H [Mb, Mv, Ma, Me, Mf, Mc, Md] F _ _ := hS
    refine qB <| wp_seq <| za (vals := [some (qL LZ 0), some (qL LZ 0), some (qL LZ 1), some (.slice Mg L0.length Mi), some (.int .i64 (L0.length : Int)), some (.int .i64 L9), some (.int .i64 (qh ((L0.length : Int) + L9))), some (qL LZ 0), some (qL LZ 0), some (qL LZ 2), some (.int .i64 L4.limit_), some (.bool (decide ((qh ((L0.length : Int) + L9)) > L4.limit_))), none]) hS xE rfl ?_
    intro l w ho hcl hA hst
    refine y9 hA hst ho hcl xx xF 12 [0, 1, 2, 3, 4, 5, 6, 7, 8, 9, 10, 11] rfl rfl rfl rfl rfl (by exact ⟨nM rfl, nQ rfl (by exact qX (yw rfl) rfl), nQ rfl (by exact qX (xv rfl Tryd.runUnderlying97 rfl Tryd.sizeOf32 rfl) rfl), nQ rfl (by exact qX (xY 0 rfl L8 rfl rfl Tryd.isAgg32) rfl), nQ rfl (by exact qX (yj rfl Tryd.runUnderlying32) rfl), nM rfl, nB rfl, nM rfl, nQ rfl (by exact qX (yw rfl) rfl), nQ rfl (by exact qX (xv rfl Tryd.runUnderlying97 rfl Tryd.sizeOf3 rfl) rfl), nQ rfl (by exact qX (xY 0 rfl L8 rfl rfl Tryd.isAgg3) rfl), nB rfl, trivial⟩) fun D l a w ho hcl hav hpre hm hE hk hA hst => ?_
    have hS := (Ss.mk hE hst).env2 (e' := [(80, .bool (decide ((qh ((L0.length : Int) + L9)) > L4.limit_)))]) ⟨rfl, trivial⟩
    refine qQ rfl <| qF hS rfl Tryd.call65 (xb hG K (decide ((qh ((L0.length : Int) + L9)) > L4.limit_)) (11 : Int) (hS.st.part 0 [0, 1, 2, 3, 4, 5, 6] (by kernel_rfl)) (qs hM) (fun  w hM  hst => qA hS.ev hst.appF rfl fun hS => ?_) (fun v w hk hst => xo (qD (qD (zR (qD (zR (⟨hS.ev.defs, hpan _ _ hk hst.appF.frame⟩))))))))
    replace hS : Ss _ _ _ H [Mb, Mv, Ma, Me, Mf, Mc, Md] F _ _ := hS
    refine qB ?_
    replace hst := hS.st
    obtain ⟨hcl, hmust, hav2, hA⟩ := dn (vals' := [some (qL LZ 0), some (qL LZ 0), some (qL LZ 1), some (.slice Mg L0.length Mi), some (.int .i64 (L0.length : Int)), some (.int .i64 L9), some (.int .i64 (qh ((L0.length : Int) + L9))), some (qL LZ 0), some (qL LZ 0), some (qL LZ 2), some (.int .i64 L4.limit_), some (.bool (decide ((qh ((L0.length : Int) + L9)) > L4.limit_))), some (.tuple ⟨[]⟩)]) 12 [(11, 12), (6, 11), (10, 11), (4, 6), (5, 6), (9, 10), (3, 4), (8, 9), (2, 3), (7, 8), (1, 2), (0, 1)] hA hcl hav hm hpre hk rfl rfl rfl rfl rfl rfl rfl
    clear hm hav
    refine yk hA hst ho hcl hmust [] rfl rfl rfl trivial fun a w hS => ?_
    replace hS := hS.env2 (e' := [(0, qL LZ 0), (1, qL Ms 0), (2, qL Mt 0), (7, .int .i64 L9), (9, .int .i64 L1)]) ⟨rfl, rfl, rfl, rfl, rfl, trivial⟩
    refine qe <| qm <| sM hS rfl fun hS => sM hS rfl fun hS => qB <| xO <| zu (fun MY a w => ∃ (L5 : Option Addr) (L6 : Nat) (LY : (List Int)) (MC : qk) (MD : qk) (Mw : Int), Ss 108 [] [(0, qL LZ 0), (1, qL Ms 0), (2, qL Mt 0), (9, .int .i64 L1), (82, .int .i64 L9), (83, .int .i64 Mw)] H [Me, Mf, Mc, Md, MD, Mv, MC] F a w ∧ (xi 5 (ci .u8) 1 L5 LY L6 MC) ∧ (xJ MD LZ ([qL Mh 0, .slice L5 LY.length L6, .int .i64 L4.limit_]) 97) ∧ (qU.l2 K (qU.l1 K L4 L3 L7 Nn) L9 L1 Mz MY LY Mw).wp kr kp) K ?_ ?_ ?_
    ·exact ⟨Mg, Mi, L0, Ma, Mb, (0 : Int), hS.to [3, 4, 5, 6, 0, 1, 2] (by kernel_rfl) ⟨rfl, rfl, rfl, rfl, rfl, rfl, trivial⟩, Mk, L8, hM⟩
    ·intro a w hI; obtain ⟨_, _, _, _, _, _, _, _, _, hM⟩ := hI; exact zt hM
    ·intro MY a w hI NG Nc
     obtain ⟨L5, L6, LY, MC, MD, Mw, hS, Mn, Mj, hM⟩ := hI
     rw [qU.l2] at hM
     refine qm <| sB hS rfl fun hS => qB <| wp_seq <| qG hS rfl hM (fun Nk hM => ?_) (fun Nk hM => ?_)
     ·refine wp_skip ?_
      refine qe <| wp_seq <| xO ?_
      obtain ⟨MK, hM⟩ := qK hM
      refine za (vals := [some (qL LZ 0), some (qL LZ 0), some (qL LZ 0), some (qL LZ 1), some (.slice L5 LY.length L6), some (qL LZ 0), some (qL LZ 0), some (qL LZ 1), some (.slice L5 LY.length L6), some (qL LZ 0), some (qL LZ 0), some (qL LZ 1), some (.slice L5 LY.length L6), some (.int .i64 (LY.length : Int)), some (.int .i64 L1), some (.int .i64 (qh ((LY.length : Int) - L1))), some (xG L5 (Int.toNat (qh ((LY.length : Int) - L1)) * 1)), some (.int .u8 (rd LY (qh ((LY.length : Int) - L1)))), none, none, none, none, none]) hS xE rfl ?_
      intro l w ho hcl hA hst
      refine y9 hA hst ho hcl xx xF 18 [0, 1, 2, 3, 4, 5, 6, 7, 8, 9, 10, 11, 12, 13, 14, 15, 16, 17] rfl rfl rfl rfl rfl (by exact ⟨nM rfl, nM rfl, nQ rfl (by exact qX (yw rfl) rfl), nQ rfl (by exact qX (xv rfl Tryd.runUnderlying97 rfl Tryd.sizeOf32 rfl) rfl), nQ rfl (by exact qX (xY 4 rfl Mj rfl rfl Tryd.isAgg32) rfl), nM rfl, nQ rfl (by exact qX (yw rfl) rfl), nQ rfl (by exact qX (xv rfl Tryd.runUnderlying97 rfl Tryd.sizeOf32 rfl) rfl), nQ rfl (by exact qX (xY 4 rfl Mj rfl rfl Tryd.isAgg32) rfl), nM rfl, nQ rfl (by exact qX (yw rfl) rfl), nQ rfl (by exact qX (xv rfl Tryd.runUnderlying97 rfl Tryd.sizeOf32 rfl) rfl), nQ rfl (by exact qX (xY 4 rfl Mj rfl rfl Tryd.isAgg32) rfl), nQ rfl (by exact qX (yj rfl Tryd.runUnderlying32) rfl), nM rfl, nB rfl, nQ rfl (by exact qX (yu rfl rfl Tryd.runUnderlying32 Tryd.sizeOf5 (Mn.rd (i := 6) rfl) (fun _ => rfl) rfl MK) rfl), nQ rfl (by exact qX (yD rfl (Mn.rd (i := 6) rfl) (fun _ => rfl) MK rfl Tryd.isAgg5) rfl), trivial⟩) fun D l a w ho hcl hav hpre hm hE hk hA hst => ?_
      have hS := (Ss.mk hE hst).env2 (e' := [(102, .int .u8 (rd LY (qh ((LY.length : Int) - L1))))]) ⟨rfl, trivial⟩
      refine qQ rfl <| Y3 (g := (ci .u8)) ([(rd LY (qh ((LY.length : Int) - L1)))] : List Int) [.int .u8 (rd LY (qh ((LY.length : Int) - L1)))] hS Tryd.runUnderlying32 Tryd.sizeOf5 X.el5 rfl rfl rfl (by simp [Value.cells]) rfl rfl rfl rfl rfl fun w My MB NK Ng hS => qB ?_
      replace hst := hS.st
      obtain ⟨hcl, hmust, hav2, hA⟩ := dn (vals' := [some (qL LZ 0), some (qL LZ 0), some (qL LZ 0), some (qL LZ 1), some (.slice L5 LY.length L6), some (qL LZ 0), some (qL LZ 0), some (qL LZ 1), some (.slice L5 LY.length L6), some (qL LZ 0), some (qL LZ 0), some (qL LZ 1), some (.slice L5 LY.length L6), some (.int .i64 (LY.length : Int)), some (.int .i64 L1), some (.int .i64 (qh ((LY.length : Int) - L1))), some (xG L5 (Int.toNat (qh ((LY.length : Int) - L1)) * 1)), some (.int .u8 (rd LY (qh ((LY.length : Int) - L1)))), some (.slice My ([(rd LY (qh ((LY.length : Int) - L1)))] : List Int).length MB), none, none, none, none]) 18 [(17, 18), (16, 17), (8, 16), (15, 16), (7, 8), (13, 15), (14, 15), (6, 7), (12, 13), (5, 6), (11, 12), (10, 11), (9, 10)] hA hcl hav hm hpre hk rfl rfl rfl rfl rfl rfl rfl
      clear hm hav
      refine y9 hA hst ho hcl hav2 hmust 19 [0, 1, 2, 3, 4] rfl rfl rfl rfl rfl (by exact ⟨nM rfl, nM rfl, nQ rfl (by exact qX (yw rfl) rfl), nQ rfl (by exact qX (xv rfl Tryd.runUnderlying97 rfl Tryd.sizeOf32 rfl) rfl), nQ rfl (by exact qX (xY 5 rfl Mj rfl rfl Tryd.isAgg32) rfl), trivial⟩) fun D l a w ho hcl hav hpre hm hE hk hA hst => ?_
      have hS := (Ss.mk hE hst).env2 (e' := [(89, .slice L5 LY.length L6), (103, .slice My ([(rd LY (qh ((LY.length : Int) - L1)))] : List Int).length MB)]) ⟨rfl, rfl, trivial⟩
      refine qQ rfl ?_
      obtain ⟨Nm, hM⟩ := qK hM
      refine JA (ys := ([(rd LY (qh ((LY.length : Int) - L1)))] : List Int)) 7 hS rfl rfl Mn rfl (Ng.rd (i := 0) rfl) Tryd.runUnderlying32 Tryd.runUnderlying32 X.el5 (fun _ => rfl) rfl u3 Nm rfl fun Ml w Mr Mu Nq hz Nh hS => ?_
      have hM := qy hz hM; clear hz
      refine qB ?_
      replace hst := hS.st
      obtain ⟨hcl, hmust, hav2, hA⟩ := dn (vals' := [some (qL LZ 0), some (qL LZ 0), some (qL LZ 0), some (qL LZ 1), some (.slice L5 LY.length L6), some (qL LZ 0), some (qL LZ 0), some (qL LZ 1), some (.slice L5 LY.length L6), some (qL LZ 0), some (qL LZ 0), some (qL LZ 1), some (.slice L5 LY.length L6), some (.int .i64 (LY.length : Int)), some (.int .i64 L1), some (.int .i64 (qh ((LY.length : Int) - L1))), some (xG L5 (Int.toNat (qh ((LY.length : Int) - L1)) * 1)), some (.int .u8 (rd LY (qh ((LY.length : Int) - L1)))), some (.slice My ([(rd LY (qh ((LY.length : Int) - L1)))] : List Int).length MB), some (.slice Mr Ml.length Mu), some (qL LZ 0), some (qL LZ 1), none]) 19 [(4, 19), (18, 19), (3, 4), (17, 18), (2, 3), (16, 17), (1, 2), (8, 16), (15, 16), (7, 8), (13, 15), (14, 15), (6, 7), (12, 13), (5, 6), (11, 12), (10, 11), (9, 10)] hA hcl hav hm hpre hk rfl rfl rfl rfl rfl rfl rfl
      clear hm hav
      refine y9 hA hst ho hcl hav2 hmust 22 [0, 20, 21] rfl rfl rfl rfl rfl (by exact ⟨nM rfl, nQ rfl (by exact qX (yw rfl) rfl), nQ rfl (by exact qX (xv rfl Tryd.runUnderlying97 rfl Tryd.sizeOf32 rfl) rfl), trivial⟩) fun D l a w ho hcl hav hpre hm hE hk hA hst => ?_
      have hS := (Ss.mk hE hst).env2 (e' := [(104, .slice Mr Ml.length Mu), (106, qL LZ 1)]) ⟨rfl, rfl, trivial⟩
      refine qQ rfl <| JC 5 ([qL Mh 0, .slice Mr Ml.length Mu, .int .i64 L4.limit_]) hS rfl rfl Mj rfl rfl rfl rfl Tryd.sizeOf32 fun w Nr Nb hS => qB ?_
      replace hst := hS.st
      obtain ⟨hcl, hmust, hav2, hA⟩ := Xx (vals' := [some (qL LZ 0), some (qL LZ 0), some (qL LZ 0), some (qL LZ 1), some (.slice L5 LY.length L6), some (qL LZ 0), some (qL LZ 0), some (qL LZ 1), some (.slice L5 LY.length L6), some (qL LZ 0), some (qL LZ 0), some (qL LZ 1), some (.slice L5 LY.length L6), some (.int .i64 (LY.length : Int)), some (.int .i64 L1), some (.int .i64 (qh ((LY.length : Int) - L1))), some (xG L5 (Int.toNat (qh ((LY.length : Int) - L1)) * 1)), some (.int .u8 (rd LY (qh ((LY.length : Int) - L1)))), some (.slice My ([(rd LY (qh ((LY.length : Int) - L1)))] : List Int).length MB), some (.slice Mr Ml.length Mu), some (qL LZ 0), some (qL LZ 1), some undef]) 22 [(0, 22), (1, 22), (2, 22), (3, 22), (4, 22), (5, 22), (6, 22), (7, 22), (8, 22), (9, 22), (10, 22), (11, 22), (12, 22), (13, 22), (14, 22), (15, 22), (16, 22), (17, 22), (18, 22), (19, 22), (21, 22), (20, 21)] hA hcl hav hm hpre rfl rfl rfl rfl rfl
      clear hm hav
      refine yk hA hst ho hcl hmust [] rfl rfl rfl trivial fun a w hS => ?_
      replace hS := hS.env2 (e' := [(0, qL LZ 0), (1, qL Ms 0), (2, qL Mt 0), (9, .int .i64 L1), (82, .int .i64 L9), (83, .int .i64 Mw)]) ⟨rfl, rfl, rfl, rfl, rfl, rfl, trivial⟩
      refine zy (qe ?_)
      refine zN <| sB hS rfl fun hS => sM hS rfl fun hS => zp <| qe ?_
      exact Nc _ _ ⟨Mr, Mu, Ml, Nq, Nr, (qh (Mw + (1 : Int))), hS.to [1, 2, 3, 4, 5, 6, 7] (by kernel_rfl) ⟨rfl, rfl, rfl, rfl, rfl, rfl, trivial⟩, Nh, Nb, hM⟩
     ·refine wp_exit ?_
      refine qE (qE (ze (zy (qe ?_))))
      exact MH _ _ ⟨Mz, Mv, L5, L6, LY, MC, MD, hS.to [0, 1, 2, 3, 4, 5, 6] (by kernel_rfl) ⟨rfl, rfl, rfl, trivial⟩, Nu, Mn, Mj, hM⟩
theorem uW {H : xR} {F : List qk} {w : World} {R : Ending → World → Prop} {kr : ((List Int) × Int) → Prop} {kp : Value → Prop} (hG : Gl H) (K : Nat) (LZ : qx) (L5 : Int) (Mf : qI) (L7 : Nat) (L1 : qk) (Me : Nat) (MI : qk) (Mm : Option Addr) (Mn : Nat) (L3 : qk) (Mk : Nat) (L8 : qk) (MG : Option Addr) (MH : Nat) (L9 : qk) (Mr : xJ L1 L7 ([qL Me 0, .slice Mm LZ.out_.length Mn, .int .i64 LZ.limit_]) 97) (M0 : xJ MI Me ([.int .i64 LZ.Reader_.place_.at_, xf LZ.Reader_.text_]) 118) (Mt : xi 5 (ci .u8) 1 Mm LZ.out_ Mn L3) (M3 : xJ L8 Mk ((Mf.counts_.flatMap (ci .i64)) ++ [.slice MG Mf.symbols_.length MH]) 160) (Ni : Mf.counts_.length = 16) (M7 : xi 3 (ci .i64) 1 MG Mf.symbols_ MH L9)
    (hS : St w H [L1, MI, L3, L8, L9] F) (hm : (qO.m K LZ L5 Mf).wp kr kp)
    (hret : ∀ (MS : Option Addr) (MT : Nat) (MO : (List Int)) (MX : qk) (Mx : Int) (MY : qk) (w : World), kr (MO, Mx) → (xi 3 (ci .i64) 1 MS MO MT MX) → (xJ MY Me ([.int .i64 Mx, xf LZ.Reader_.text_]) 118) → St w H [MX, L8, L9, L1, MY, L3] F → R (.returned (.slice MS MO.length MT)) w)
    (hpan : ∀ v w, kp v → St w H [] F → R (.panicked [⟨v, false, false⟩]) w) :
    Calls Tryd.prog 84 ⟨[qL L7 0, .int .i64 L5, qL Mk 0]⟩ w R := by
 refine enter Tryd.func84 rfl Tryd.ntmps84 rfl hS fun a w hS => ?_
 have hM := hm; clear hm
 rw [qO.m] at hM
 refine qm <| sA hS rfl fun hS => ?_
 obtain ⟨Nz, Nt, hS⟩ := hS.nilV 3 (ci .i64) 1
 refine qB <| qm <| sA hS rfl fun hS => ?_
 obtain ⟨Nm, M8, hS⟩ := hS.nilV 3 (ci .i64) 1
 refine qB <| wp_seq <| xO <| zu (fun MB a w => ∃ (Mc : Int) (Mv : qk) (L6 : Option Addr) (Mb : Nat) (LY : (List Int)) (Ma : qk), Ss 63 [] [(0, qL L7 0), (1, .int .i64 L5), (2, qL Mk 0), (7, .slice L6 LY.length Mb)] H [L8, L9, L1, Mv, L3, Ma] F a w ∧ (xJ Mv Me ([.int .i64 Mc, xf LZ.Reader_.text_]) 118) ∧ (xi 3 (ci .i64) 1 L6 LY Mb Ma) ∧ (qO.l1 K LZ L5 Mf MB Mc LY).wp kr kp) K ?_ ?_ ?_
 ·exact ⟨LZ.Reader_.place_.at_, MI, none, 0, ([] : List Int), Nm, hS.to [5, 6, 2, 3, 4, 0] (by kernel_rfl) ⟨rfl, rfl, rfl, rfl, trivial⟩, M0, M8, hM⟩
 ·intro a w hI; obtain ⟨_, _, _, _, _, _, _, _, _, hM⟩ := hI; exact zt hM
 ·intro MB a w hI Nx M6
  obtain ⟨Mc, Mv, L6, Mb, LY, Ma, hS, MJ, Mg, hM⟩ := hI
  rw [qO.l1] at hM
  refine wp_seq <| qm <| sM hS rfl fun hS => sO hS (yj rfl Tryd.runUnderlying66) rfl fun hS => sM hS rfl fun hS => sB hS rfl fun hS => qB <| qG hS rfl hM (fun Nb hM => ?_) (fun Nb hM => ?_)
  ·refine wp_skip ?_
   refine qe <| xO <| qm <| sM hS rfl fun hS => sM hS rfl fun hS => qF hS rfl Tryd.call81 (yM hG K (qx.mk (qH.mk (qr.mk Mc) LZ.Reader_.text_) LZ.out_ LZ.limit_) Mf L7 L1 Me Mv Mm Mn L3 Mk L8 MG MH L9 Mr MJ Mt M3 Ni M7 (hS.st.part 5 [2, 3, 4, 0, 1, 5] (by kernel_rfl)) (qs hM) (fun MD Mj Mp w hM MA hst => qA hS.ev hst.appF rfl fun hS => ?_) (fun v w hk hst => xo (qD (zR (qD (zR (qD (⟨hS.ev.defs, hpan _ _ hk hst.appF.frame⟩))))))))
   replace hS : Ss _ _ _ H [L8, L9, L1, Mp, L3, Ma] F _ _ := hS
   refine sA hS rfl fun hS => qB <| qm <| sA hS rfl fun hS => sA hS rfl fun hS => qB <| zj (fun a w => ∃ (Md : Int) (Mq : qk) (L0 : Int) (L4 : Int), Ss 63 [] [(0, qL L7 0), (1, .int .i64 L5), (2, qL Mk 0), (7, .slice L6 LY.length Mb), (9, .int .i64 L0), (10, .int .i64 L4)] H [L8, L9, L1, Mq, L3, Ma] F a w ∧ (xJ Mq Me ([.int .i64 Md, xf LZ.Reader_.text_]) 118) ∧ (qO.j2 K (qO.l1 K LZ L5 Mf MB) L5 LY Md L0 L4).wp kr kp) (fun Nv Ms => ?_) ?_
   ·refine xO ?_
    refine qm <| sM hS rfl fun hS => sB hS rfl fun hS => zE (v := Value.bool) (x0 := (decide (MD < (16 : Int)))) hS (xy rfl) rfl fun NB a w hz hS => ?_
    have hM := qy hz hM; clear hz
    refine qB <| qG hS rfl hM (fun Nc hM => ?_) (fun Nc hM => ?_)
    ·refine zN ?_
     refine sM hS rfl fun hS => sA hS rfl fun hS => zp <| zy (qe ?_)
     exact Ms _ _ ⟨Mj, Mp, MD, (1 : Int), hS.to [0, 1, 2, 3, 4, 5] (by kernel_rfl) ⟨rfl, rfl, rfl, rfl, rfl, rfl, trivial⟩, MA, hM⟩
    ·refine wp_seq ?_
     refine zN <| sM hS rfl fun hS => sB hS rfl fun hS => zE (v := Value.bool) (x0 := (MD == (16 : Int))) hS (xy rfl) rfl fun NC a w hz hS => ?_
     have hM := qy hz hM; clear hz
     refine qB <| qG hS rfl hM (fun Nd hM => ?_) (fun Nd hM => ?_)
     ·refine wp_seq ?_
      refine zN <| sM hS rfl fun hS => sO hS (yj rfl Tryd.runUnderlying66) rfl fun hS => sB hS rfl fun hS => qF hS rfl Tryd.call65 (xb hG K ((LY.length : Int) == (0 : Int)) (3 : Int) (hS.st.part 0 [0, 1, 2, 3, 4, 5] (by kernel_rfl)) (qs hM) (fun  w hM  hst => qA hS.ev hst.appF rfl fun hS => ?_) (fun v w hk hst => xo (qD (zR (qD (zR (qD (zR (qD (⟨hS.ev.defs, hpan _ _ hk hst.appF.frame⟩))))))))))
      replace hS : Ss _ _ _ H [L8, L9, L1, Mp, L3, Ma] F _ _ := hS
      refine zp <| qe ?_
      obtain ⟨Mu, hM⟩ := qK hM
      refine za (vals := [some (.slice L6 LY.length Mb), some (.slice L6 LY.length Mb), some (.int .i64 (LY.length : Int)), some (.int .i64 (qh ((LY.length : Int) - (1 : Int)))), some (xG L6 (Int.toNat (qh ((LY.length : Int) - (1 : Int))) * 1)), some (.int .i64 (rd LY (qh ((LY.length : Int) - (1 : Int))))), some (qL L7 0), none, none, none, none]) hS xE rfl ?_
      intro l w ho hcl hA hst
      refine y9 hA hst ho hcl xx xF 7 [0, 1, 2, 3, 4, 5, 6] rfl rfl rfl rfl rfl (by exact ⟨nM rfl, nM rfl, nQ rfl (by exact qX (yj rfl Tryd.runUnderlying66) rfl), nB rfl, nQ rfl (by exact qX (yu rfl rfl Tryd.runUnderlying66 Tryd.sizeOf3 (Mg.rd (i := 5) rfl) (fun _ => rfl) rfl Mu) rfl), nQ rfl (by exact qX (yD rfl (Mg.rd (i := 5) rfl) (fun _ => rfl) Mu rfl Tryd.isAgg3) rfl), nM rfl, trivial⟩) fun D l a w ho hcl hav hpre hm hE hk hA hst => ?_
      have hS := (Ss.mk hE hst).env2 (e' := [(38, qL L7 0)]) ⟨rfl, trivial⟩
      refine qQ rfl <| qF hS rfl Tryd.call60 (z3 hG K (qx.mk (qH.mk (qr.mk Mj) LZ.Reader_.text_) LZ.out_ LZ.limit_) (2 : Int) L7 L1 Me Mp Mm Mn L3 Mr MA Mt (hS.st.part 3 [2, 3, 4, 0, 1, 5] (by kernel_rfl)) (qs hM) (fun MN MP MU w hM No hst => qA hS.ev hst.appF rfl fun hS => ?_) (fun v w hk hst => xo (qD (zR (qD (zR (qD (zR (qD (⟨hS.ev.defs, hpan _ _ hk hst.appF.frame⟩))))))))))
      replace hS : Ss _ _ _ H [L1, MU, L3, L8, L9, Ma] F _ _ := hS
      refine qB ?_
      replace hst := hS.st
      obtain ⟨Mi, ML⟩ : ∃ x, x = (rd LY (qh ((LY.length : Int) - (1 : Int)))) := ⟨_, rfl⟩
      replace hM := qy ML hM
      obtain ⟨Mh, MM⟩ : ∃ x, x = (qh ((3 : Int) + MN)) := ⟨_, rfl⟩
      replace hM := qy MM hM
      obtain ⟨hcl, hmust, hav2, hA⟩ := dn (vals' := [some (.slice L6 LY.length Mb), some (.slice L6 LY.length Mb), some (.int .i64 (LY.length : Int)), some (.int .i64 (qh ((LY.length : Int) - (1 : Int)))), some (xG L6 (Int.toNat (qh ((LY.length : Int) - (1 : Int))) * 1)), some (.int .i64 (rd LY (qh ((LY.length : Int) - (1 : Int))))), some (qL L7 0), some (.int .i64 MN), some (.int .i64 (qh ((3 : Int) + MN))), some (.int .i64 Mi), some (.int .i64 Mh)]) 7 [(6, 7)] hA hcl hav hm hpre hk rfl rfl rfl rfl rfl rfl rfl
      clear hm hav
      refine yk hA hst ho hcl hmust [0, 1, 2, 3, 4, 5, 8, 9, 10] rfl rfl rfl (by exact ⟨nM rfl, nM rfl, nQ rfl (by exact qX (yj rfl Tryd.runUnderlying66) rfl), nB rfl, nQ rfl (by exact qX (yu rfl rfl Tryd.runUnderlying66 Tryd.sizeOf3 (Mg.rd (i := 5) rfl) (fun _ => rfl) rfl Mu) rfl), nQ rfl (by exact qX (yD rfl (Mg.rd (i := 5) rfl) (fun _ => rfl) Mu rfl Tryd.isAgg3) rfl), nB rfl, nQ rfl (by exact qX (xy rfl) (congrArg (Value.int .i64) ML.symm)), nQ rfl (by exact qX (xy rfl) (congrArg (Value.int .i64) MM.symm)), trivial⟩) fun a w hS => ?_
      replace hS := hS.env2 (e' := [(0, qL L7 0), (1, .int .i64 L5), (2, qL Mk 0), (7, .slice L6 LY.length Mb), (9, .int .i64 Mi), (10, .int .i64 Mh)]) ⟨rfl, rfl, rfl, rfl, rfl, rfl, trivial⟩
      refine zy (qe ?_)
      exact Ms _ _ ⟨MP, MU, Mi, Mh, hS.to [3, 4, 0, 1, 2, 5] (by kernel_rfl) ⟨rfl, rfl, rfl, rfl, rfl, rfl, trivial⟩, No, hM⟩
     ·refine wp_seq ?_
      refine zN <| sM hS rfl fun hS => sB hS rfl fun hS => zE (v := Value.bool) (x0 := (MD == (17 : Int))) hS (xy rfl) rfl fun ND a w hz hS => ?_
      have hM := qy hz hM; clear hz
      refine qB <| qG hS rfl hM (fun Nf hM => ?_) (fun Nf hM => ?_)
      ·refine zN ?_
       refine sM hS rfl fun hS => qF hS rfl Tryd.call60 (z3 hG K (qx.mk (qH.mk (qr.mk Mj) LZ.Reader_.text_) LZ.out_ LZ.limit_) (3 : Int) L7 L1 Me Mp Mm Mn L3 Mr MA Mt (hS.st.part 3 [2, 3, 4, 0, 1, 5] (by kernel_rfl)) (qs hM) (fun Nr MQ MV w hM Np hst => qA hS.ev hst.appF rfl fun hS => ?_) (fun v w hk hst => xo (zR (qD (zR (qD (zR (qD (⟨hS.ev.defs, hpan _ _ hk hst.appF.frame⟩)))))))))
       replace hS : Ss _ _ _ H [L1, MV, L3, L8, L9, Ma] F _ _ := hS
       refine sB hS rfl fun hS => zE (v := Value.int .i64) (x0 := (qh ((3 : Int) + Nr))) hS (xy rfl) rfl fun ME a w hz hS => ?_
       have hM := qy hz hM; clear hz
       refine zp <| zy (qe ?_)
       exact Ms _ _ ⟨MQ, MV, (0 : Int), ME, hS.to [3, 4, 0, 1, 2, 5] (by kernel_rfl) ⟨rfl, rfl, rfl, rfl, rfl, rfl, trivial⟩, Np, hM⟩
      ·refine zN ?_
       refine sM hS rfl fun hS => qF hS rfl Tryd.call60 (z3 hG K (qx.mk (qH.mk (qr.mk Mj) LZ.Reader_.text_) LZ.out_ LZ.limit_) (7 : Int) L7 L1 Me Mp Mm Mn L3 Mr MA Mt (hS.st.part 3 [2, 3, 4, 0, 1, 5] (by kernel_rfl)) (qs hM) (fun Ns MR MW w hM Nq hst => qA hS.ev hst.appF rfl fun hS => ?_) (fun v w hk hst => xo (zR (qD (zR (qD (zR (qD (⟨hS.ev.defs, hpan _ _ hk hst.appF.frame⟩)))))))))
       replace hS : Ss _ _ _ H [L1, MW, L3, L8, L9, Ma] F _ _ := hS
       refine sB hS rfl fun hS => zE (v := Value.int .i64) (x0 := (qh ((11 : Int) + Ns))) hS (xy rfl) rfl fun MF a w hz hS => ?_
       have hM := qy hz hM; clear hz
       refine zp <| zy (qe ?_)
       exact Ms _ _ ⟨MR, MW, (0 : Int), MF, hS.to [3, 4, 0, 1, 2, 5] (by kernel_rfl) ⟨rfl, rfl, rfl, rfl, rfl, rfl, trivial⟩, Nq, hM⟩
   ·intro a w hI
    obtain ⟨Md, Mq, L0, L4, hS, M4, hM⟩ := hI
    rw [qO.j2] at hM
    refine qm <| sM hS rfl fun hS => sM hS rfl fun hS => sM hS rfl fun hS => sO hS (yj rfl Tryd.runUnderlying66) rfl fun hS => sB hS rfl fun hS => sB hS rfl fun hS => qF hS rfl Tryd.call65 (xb hG K (decide (L4 > (qh (L5 - (LY.length : Int))))) (3 : Int) (hS.st.part 0 [0, 1, 2, 3, 4, 5] (by kernel_rfl)) (qs hM) (fun  w hM  hst => qA hS.ev hst.appF rfl fun hS => ?_) (fun v w hk hst => xo (qD (zR (qD (zR (qD (⟨hS.ev.defs, hpan _ _ hk hst.appF.frame⟩))))))))
    replace hS : Ss _ _ _ H [L8, L9, L1, Mq, L3, Ma] F _ _ := hS
    refine qB <| qm <| sM hS rfl fun hS => sM hS rfl fun hS => qB <| xO <| zu (fun MZ a w => ∃ (Mw : Option Addr) (My : Nat) (Ml : (List Int)) (Mz : qk) (MC : Int), Ss 63 [] [(0, qL L7 0), (1, .int .i64 L5), (2, qL Mk 0), (7, .slice Mw Ml.length My), (9, .int .i64 L0), (54, .int .i64 L4), (55, .int .i64 MC)] H [L8, L9, L1, Mq, L3, Mz] F a w ∧ (xi 3 (ci .i64) 1 Mw Ml My Mz) ∧ (qO.l3 K (qO.l1 K LZ L5 Mf MB) Md L0 L4 MZ Ml MC).wp kr kp) K ?_ ?_ ?_
    ·exact ⟨L6, Mb, LY, Ma, (0 : Int), hS.to [0, 1, 2, 3, 4, 5] (by kernel_rfl) ⟨rfl, rfl, rfl, rfl, rfl, rfl, rfl, trivial⟩, Mg, hM⟩
    ·intro a w hI; obtain ⟨_, _, _, _, _, _, _, hM⟩ := hI; exact zt hM
    ·intro MZ a w hI Nw M5
     obtain ⟨Mw, My, Ml, Mz, MC, hS, MK, hM⟩ := hI
     rw [qO.l3] at hM
     refine qm <| sB hS rfl fun hS => qB <| wp_seq <| qG hS rfl hM (fun Ng hM => ?_) (fun Ng hM => ?_)
     ·refine wp_skip ?_
      refine qe <| wp_seq <| xO <| zN <| sM hS rfl fun hS => sM hS rfl fun hS => Y3 (g := (ci .i64)) ([L0] : List Int) [.int .i64 L0] hS Tryd.runUnderlying66 Tryd.sizeOf3 X.el3 rfl rfl rfl (by simp [Value.cells]) rfl rfl rfl rfl rfl fun w Nu Ny NA M9 hS => ?_
      obtain ⟨Nh, hM⟩ := qK hM
      refine JA (ys := ([L0] : List Int)) 6 hS rfl rfl MK rfl (M9.rd (i := 0) rfl) Tryd.runUnderlying66 Tryd.runUnderlying66 X.el3 (fun _ => rfl) rfl xH Nh rfl fun Nj w Nk Nl Nn hz Na hS => ?_
      have hM := qy hz hM; clear hz
      refine sA hS rfl fun hS => zp <| zy (qe ?_)
      refine zN <| sB hS rfl fun hS => sM hS rfl fun hS => zp <| qe ?_
      exact M5 _ _ ⟨Nk, Nl, Nj, Nn, (qh (MC + (1 : Int))), hS.to [1, 2, 3, 4, 5, 6] (by kernel_rfl) ⟨rfl, rfl, rfl, rfl, rfl, rfl, rfl, trivial⟩, Na, hM⟩
     ·refine wp_exit ?_
      refine qE (qE (ze (zy (qe ?_))))
      exact M6 _ _ ⟨Md, Mq, Mw, My, Ml, Mz, hS.to [0, 1, 2, 3, 4, 5] (by kernel_rfl) ⟨rfl, rfl, rfl, rfl, trivial⟩, M4, MK, hM⟩
  ·refine wp_exit ?_
   refine qE (qE (ze (qe ?_)))
   refine qm <| sM hS rfl fun hS => sA hS rfl fun hS => qB <| wp_ret ?_
   exact zD (rs := [6]) hS rfl rfl (hret L6 Mb LY Ma Mc Mv _ (q7 hM) Mg MJ (hS.st.pick [5, 0, 1, 2, 3, 4] (by kernel_rfl)))
theorem vV {H : xR} {F : List qk} {w : World} {R : Ending → World → Prop} {kr : ((Option qI) × (Option qI) × Int) → Prop} {kp : Value → Prop} (hG : Gl H) (K : Nat) (LY : qx) (L7 : Nat) (LZ : qk) (L4 : Nat) (MK : qk) (Mb : Option Addr) (Mc : Nat) (L0 : qk) (Me : xJ LZ L7 ([qL L4 0, .slice Mb LY.out_.length Mc, .int .i64 LY.limit_]) 97) (Nc : xJ MK L4 ([.int .i64 LY.Reader_.place_.at_, xf LY.Reader_.text_]) 118) (Mf : xi 5 (ci .u8) 1 Mb LY.out_ Mc L0)
    (hS : St w H [LZ, MK, L0] F) (hm : (zb.m K LY).wp kr kp)
    (hret : ∀ (MX : Option Addr) (Na : Option qI) (M6 : qk) (MY : Option Addr) (Nb : Option qI) (M7 : qk) (MH : Int) (M8 : qk) (w : World), kr (Na, Nb, MH) → (Ki qI.Own MX Na M6) → (Ki qI.Own MY Nb M7) → (xJ M8 L4 ([.int .i64 MH, xf LY.Reader_.text_]) 118) → St w H [M6, M7, LZ, M8, L0] F → R (.returned (.tuple ⟨[.pointer MX, .pointer MY]⟩)) w)
    (hpan : ∀ v w, kp v → St w H [] F → R (.panicked [⟨v, false, false⟩]) w) :
    Calls Tryd.prog 64 ⟨[qL L7 0]⟩ w R := by
 refine enter Tryd.func64 rfl Tryd.ntmps64 rfl hS fun a w hS => ?_
 have hM := hm; clear hm
 rw [zb.m] at hM
 refine qm <| sA hS rfl fun hS => sA hS rfl fun hS => qB <| qm <| sM hS rfl fun hS => qF hS rfl Tryd.call60 (z3 hG K LY (5 : Int) L7 LZ L4 MK Mb Mc L0 Me Nc Mf (hS.st.part 3 [0, 1, 2] (by kernel_rfl)) (qs hM) (fun NJ MR MZ w hM NB hst => qA hS.ev hst.appF rfl fun hS => ?_) (fun v w hk hst => xo (qD (⟨hS.ev.defs, hpan _ _ hk hst.appF.frame⟩))))
 replace hS : Ss _ _ _ H [LZ, MZ, L0] F _ _ := hS
 refine sB hS rfl fun hS => sM hS rfl fun hS => qF hS rfl Tryd.call60 (z3 hG K (qx.mk (qH.mk (qr.mk MR) LY.Reader_.text_) LY.out_ LY.limit_) (5 : Int) L7 LZ L4 MZ Mb Mc L0 Me NB Mf (hS.st.part 3 [0, 1, 2] (by kernel_rfl)) (qs hM) (fun NK MS M0 w hM NC hst => qA hS.ev hst.appF rfl fun hS => ?_) (fun v w hk hst => xo (qD (⟨hS.ev.defs, hpan _ _ hk hst.appF.frame⟩))))
 replace hS : Ss _ _ _ H [LZ, M0, L0] F _ _ := hS
 refine sB hS rfl fun hS => zE (v := Value.int .i64) (x0 := (qh (NJ + (257 : Int)))) hS (xy rfl) rfl fun L1 a w hz hS => ?_
 have hM := qy hz hM; clear hz
 refine zE (v := Value.int .i64) (x0 := (qh (NK + (1 : Int)))) hS (xy rfl) rfl fun Md a w hz hS => ?_
 have hM := qy hz hM; clear hz
 refine qB <| qm <| sM hS rfl fun hS => qF hS rfl Tryd.call60 (z3 hG K (qx.mk (qH.mk (qr.mk MS) LY.Reader_.text_) LY.out_ LY.limit_) (4 : Int) L7 LZ L4 M0 Mb Mc L0 Me NC Mf (hS.st.part 3 [0, 1, 2] (by kernel_rfl)) (qs hM) (fun NL MT ML w hM ND hst => qA hS.ev hst.appF rfl fun hS => ?_) (fun v w hk hst => xo (qD (⟨hS.ev.defs, hpan _ _ hk hst.appF.frame⟩))))
 replace hS : Ss _ _ _ H [LZ, ML, L0] F _ _ := hS
 refine sB hS rfl fun hS => zE (v := Value.int .i64) (x0 := (qh (NL + (4 : Int)))) hS (xy rfl) rfl fun Mq a w hz hS => ?_
 have hM := qy hz hM; clear hz
 refine qB <| qm <| sM hS rfl fun hS => sB hS rfl fun hS => sM hS rfl fun hS => yS 2 false 22 (b := (decide (L1 > (286 : Int)))) (r := (decide (Md > (30 : Int)))) hS rfl rfl rfl rfl rfl rfl rfl (fun hb a w hS K hK => ?_) rfl fun a w hS => ?_
 ·refine z2 hS rfl rfl rfl hb (mv rfl) rfl fun a w hS => ?_
  refine z2 hS rfl rfl rfl hb (jk rfl rfl rfl) rfl fun a w hS => ?_
  exact zp (hK _ _ (hS.up 2 rfl rfl))
 refine qF hS rfl Tryd.call65 (xb hG K ((decide (L1 > (286 : Int))) || (decide (Md > (30 : Int)))) (3 : Int) (hS.st.part 0 [0, 1, 2] (by kernel_rfl)) (qs hM) (fun  w hM  hst => qA hS.ev hst.appF rfl fun hS => ?_) (fun v w hk hst => xo (qD (⟨hS.ev.defs, hpan _ _ hk hst.appF.frame⟩))))
 replace hS : Ss _ _ _ H [LZ, ML, L0] F _ _ := hS
 refine qB <| qm <| Qf ((List.replicate 19 (0 : Int)).flatMap (ci .i64)) hS Tryd.zeroValue87 rfl rfl fun w Mj Nz Nd hS => qB <| zj (fun a w => ∃ (Ma : Int) (Mn : qk) (L6 : (List Int)) (L8 : qk), Ss 64 [] [(0, qL L7 0), (4, .int .i64 L1), (5, .int .i64 Md), (7, qL Mj 0)] H [LZ, Mn, L0, L8] F a w ∧ (xJ Mn L4 ([.int .i64 Ma, xf LY.Reader_.text_]) 118) ∧ (L6.length = 19) ∧ (xJ L8 Mj (L6.flatMap (ci .i64)) 87) ∧ (zb.j2 K LY L1 Md Ma L6).wp kr kp) (fun NS Nh => ?_) ?_
 ·refine wp_seq ?_
  refine zN <| sO hS (DG rfl hG.g3 (by rfl) Tryd.isAgg87 Tryd.sizeOf87) rfl fun hS => sM hS rfl fun hS => qB <| xO <| zu (fun M9 a w => ∃ (L3 : Int) (Ml : qk) (L5 : (List Int)) (Mm : qk) (Mr : Int), Ss 64 [] [(0, qL L7 0), (4, .int .i64 L1), (5, .int .i64 Md), (6, .int .i64 Mq), (7, qL Mj 0), (27, .agg ⟨tab_inflate_order.flatMap (ci .i64)⟩), (28, .int .i64 Mr)] H [LZ, Ml, L0, Mm] F a w ∧ (xJ Ml L4 ([.int .i64 L3, xf LY.Reader_.text_]) 118) ∧ (L5.length = 19) ∧ (xJ Mm Mj (L5.flatMap (ci .i64)) 87) ∧ (zb.l1 K LY L1 Md Mq M9 L3 L5 Mr).wp kr kp) K ?_ ?_ ?_
  ·exact ⟨MT, ML, (List.replicate 19 (0 : Int)), Nz, (0 : Int), hS.to [1, 2, 3, 0] (by kernel_rfl) ⟨rfl, rfl, rfl, rfl, rfl, rfl, rfl, trivial⟩, ND, (List.length_replicate ..), Nd, hM⟩
  ·intro a w hI; obtain ⟨_, _, _, _, _, _, _, _, _, hM⟩ := hI; exact zt hM
  ·intro M9 a w hI NR MO
   obtain ⟨L3, Ml, L5, Mm, Mr, hS, MC, Ms, MD, hM⟩ := hI
   rw [zb.l1] at hM
   refine qm <| sB hS rfl fun hS => qB <| wp_seq <| qG hS rfl hM (fun Nk hM => ?_) (fun Nk hM => ?_)
   ·refine wp_skip ?_
    refine qe <| wp_seq <| xO <| qm <| sM hS rfl fun hS => ?_
    obtain ⟨Nq, hM⟩ := qK hM
    refine sO hS (Lh rfl rfl Tryd.runUnderlying87 Tryd.isAgg3 Tryd.sizeOf3 (fun _ => rfl) uP Nq rfl) rfl fun hS => sA hS rfl fun hS => zE (v := Value.int .i64) (x0 := (rd tab_inflate_order Mr)) hS (xy rfl) rfl fun NT a w hz hS => ?_
    have hM := qy hz hM; clear hz
    refine qB <| qm <| sM hS rfl fun hS => sM hS rfl fun hS => sB hS rfl fun hS => qB <| qG hS rfl hM (fun Nl hM => ?_) (fun Nl hM => ?_)
    ·refine zN ?_
     refine sM hS rfl fun hS => sM hS rfl fun hS => qF hS rfl Tryd.call60 (z3 hG K (qx.mk (qH.mk (qr.mk L3) LY.Reader_.text_) LY.out_ LY.limit_) (3 : Int) L7 LZ L4 Ml Mb Mc L0 Me MC Mf (hS.st.part 3 [0, 1, 2, 3] (by kernel_rfl)) (qs hM) (fun NM MU M3 w hM NE hst => qA hS.ev hst.appF rfl fun hS => ?_) (fun v w hk hst => xo (zR (qD (qD (zR (qD (⟨hS.ev.defs, hpan _ _ hk hst.appF.frame⟩))))))))
     replace hS : Ss _ _ _ H [LZ, M3, L0, Mm] F _ _ := hS
     obtain ⟨MP, hM⟩ := qK hM
     refine sO hS (VA rfl rfl Tryd.runUnderlying87 Tryd.sizeOf3 MP) rfl fun hS => Dv (xs := L5) (g := (ci .i64)) (pre := []) (post := []) 3 (NM) hS rfl rfl MD rfl (by simp) rfl (fun _ => rfl) (y3 Ms MP) rfl Tryd.sizeOf3 (xH _) fun MF w M4 hz ME hS => ?_
     have Nt : MF.length = 19 := by rw [hz, List.length_set]; exact Ms
     have hM := qy hz hM; clear hz
     replace ME : xJ M4 Mj (MF.flatMap (ci .i64)) 87 := by simpa using ME
     refine zp <| zy (qe ?_)
     refine zN <| sB hS rfl fun hS => sM hS rfl fun hS => zp <| qe ?_
     exact MO _ _ ⟨MU, M3, MF, M4, (qh (Mr + (1 : Int))), hS.to [0, 1, 2, 3] (by kernel_rfl) ⟨rfl, rfl, rfl, rfl, rfl, rfl, rfl, trivial⟩, NE, Nt, ME, hM⟩
    ·refine wp_skip ?_
     refine zy (qe ?_)
     refine zN <| sB hS rfl fun hS => sM hS rfl fun hS => zp <| qe ?_
     exact MO _ _ ⟨L3, Ml, L5, Mm, (qh (Mr + (1 : Int))), hS.to [0, 1, 2, 3] (by kernel_rfl) ⟨rfl, rfl, rfl, rfl, rfl, rfl, rfl, trivial⟩, MC, Ms, MD, hM⟩
   ·refine wp_exit ?_
    refine qE (qE (ze (qe ?_)))
    exact Nh _ _ ⟨L3, Ml, L5, Mm, hS.to [0, 1, 2, 3] (by kernel_rfl) ⟨rfl, rfl, rfl, rfl, trivial⟩, MC, Ms, MD, hM⟩
 ·intro a w hI
  obtain ⟨Ma, Mn, L6, L8, hS, Nf, Mt, MN, hM⟩ := hI
  rw [zb.j2] at hM
  refine qm <| sO hS (Yg (xs := L6) (g := (ci .i64)) (pre := []) (post := []) 3 rfl MN rfl (by simp) rfl (xg (g := (ci .i64)) (sz := 1) (fun _ => rfl) Mt) Tryd.isAgg87 Tryd.sizeOf87) rfl fun hS => sO hS (Ku (([0, 0, 0, 0, 0, 0, 0, 0, 0, 0, 0, 0, 0, 0, 0, 0, 0, 0, 0] : List Int).flatMap (ci .i64)) Tryd.zeroValue87 Tryd.runUnderlying87 Tryd.sizeOf3 rfl (by kernel_rfl)) rfl fun hS => sO hS (DD rfl rfl Tryd.runUnderlying87 Tryd.runUnderlying3 Tryd.sizeOf3 Tryd.isAgg3 Mt rfl Tryd.eqGuardType87 rfl) rfl fun hS => qF hS rfl Tryd.call65 (xb hG K (L6 == ([0, 0, 0, 0, 0, 0, 0, 0, 0, 0, 0, 0, 0, 0, 0, 0, 0, 0, 0] : List Int)) (3 : Int) (hS.st.part 0 [0, 1, 2, 3] (by kernel_rfl)) (qs hM) (fun  w hM  hst => qA hS.ev hst.appF rfl fun hS => ?_) (fun v w hk hst => xo (qD (⟨hS.ev.defs, hpan _ _ hk hst.appF.frame⟩))))
  replace hS : Ss _ _ _ H [LZ, Mn, L0, L8] F _ _ := hS
  refine qB <| qm <| sM hS rfl fun hS => sM hS rfl fun hS => sM hS rfl fun hS => sB hS rfl fun hS => sO hS (G6 rfl Tryd.runUnderlying87 Tryd.sizeOf3 Mt rfl) rfl fun hS => qF hS rfl Tryd.call83 (yV hG K L6 (some ⟨Mj, 0, none⟩) (19) (MN.rdF (i := 3) rfl rfl) (Nat.le_of_eq Mt) (hS.st.part 0 [0, 1, 2, 3] (by kernel_rfl)) (qs hM) (fun NQ NU NA w hM NF hst => qA hS.ev hst.appF rfl fun hS => ?_) (fun v w hk hst => xo (qD (⟨hS.ev.defs, hpan _ _ hk hst.appF.frame⟩))))
  replace hS : Ss _ _ _ H [NA, LZ, Mn, L0, L8] F _ _ := hS
  obtain ⟨NN, Nv, hM⟩ := ZM hM
  obtain ⟨Nx, hA, Ni⟩ := NF.get Nv
  obtain ⟨Mz, Nw, Ny, MA, hF, Ng, Nu, Nj⟩ := Ni
  subst hA; subst hF
  replace hS := hS.front [0, 1, 2, 3, 4] (by kernel_rfl)
  replace hS := hS.splitF
  refine qF hS rfl Tryd.call84 (uW hG K (qx.mk (qH.mk (qr.mk Ma) LY.Reader_.text_) LY.out_ LY.limit_) (qh (L1 + Md)) NN L7 LZ L4 Mn Mb Mc L0 Nx Mz Nw Ny MA Me Nf Mf Ng Nu Nj (hS.st.part 5 [2, 3, 4, 0, 1, 5] (by kernel_rfl)) (qs hM) (fun L9 Mk Mg MI MV MB w hM Mp NG hst => qA hS.ev hst.appF rfl fun hS => ?_) (fun v w hk hst => xo (qD (⟨hS.ev.defs, hpan _ _ hk hst.appF.frame⟩))))
  replace hS : Ss _ _ _ H [MI, Mz, MA, LZ, MB, L0, L8] F _ _ := hS
  refine sA hS rfl fun hS => qB <| qm <| sM hS rfl fun hS => ?_
  obtain ⟨MQ, hM⟩ := qK hM
  refine sO hS (yu rfl rfl Tryd.runUnderlying66 Tryd.sizeOf3 (Mp.rd (i := 0) rfl) (fun _ => rfl) rfl MQ) rfl fun hS => sO hS (yD rfl (Mp.rd (i := 0) rfl) (fun _ => rfl) MQ rfl Tryd.isAgg3) rfl fun hS => sB hS rfl fun hS => qF hS rfl Tryd.call65 (xb hG K ((rd Mg (256 : Int)) == (0 : Int)) (3 : Int) (hS.st.part 0 [0, 1, 2, 3, 4, 5, 6] (by kernel_rfl)) (qs hM) (fun  w hM  hst => qA hS.ev hst.appF rfl fun hS => ?_) (fun v w hk hst => xo (qD (⟨hS.ev.defs, hpan _ _ hk hst.appF.frame⟩))))
  replace hS : Ss _ _ _ H [MI, Mz, MA, LZ, MB, L0, L8] F _ _ := hS
  refine qB <| wp_seq ?_
  obtain ⟨Nr, hM⟩ := qK hM
  obtain ⟨Mh, Mu, Mx, hz, No, Nm, MW⟩ := GY (g := (ci .i64)) (A := L9) Tryd.prog Tryd.runUnderlying66 Tryd.sizeOf3 (fun _ => rfl) (Mp.cap (fun _ => rfl) rfl) Nr
  replace hM := qy hz hM; clear hz
  obtain ⟨Ns, hM⟩ := qK hM
  obtain ⟨Mi, Mv, My, hz, Np, Nn, MJ⟩ := GY (g := (ci .i64)) (A := L9) Tryd.prog Tryd.runUnderlying66 Tryd.sizeOf3 (fun _ => rfl) (Mp.cap (fun _ => rfl) rfl) Ns
  replace hM := qy hz hM; clear hz
  refine za (vals := [some (.slice L9 Mg.length Mk), some (.int .i64 L1), some (.slice Mu Mh.length Mx), none, some (.slice L9 Mg.length Mk), some (.int .i64 L1), some (.slice Mv Mi.length My), none, none, none]) hS xE rfl ?_
  intro l w ho hcl hA hst
  refine y9 hA hst ho hcl xx xF 3 [0, 1, 2, 4, 5, 6] rfl rfl rfl rfl rfl (by exact ⟨nM rfl, nM rfl, nQ rfl (by exact qX (MW rfl Gt (BR rfl)) rfl), nM rfl, nM rfl, nQ rfl (by exact qX (MJ rfl (D7 rfl) D0) rfl), trivial⟩) fun D l a w ho hcl hav hpre hm hE hk hA hst => ?_
  have hS := (Ss.mk hE hst).env2 (e' := [(58, .slice Mu Mh.length Mx)]) ⟨rfl, trivial⟩
  refine qQ rfl <| qF hS rfl Tryd.call83 (yV hG K Mh Mu Mx (No _ _ _ (Mp.rdF (i := 0) rfl)) Nm (hS.st.part 0 [0, 1, 2, 3, 4, 5, 6] (by kernel_rfl)) (qs hM) (fun Mw NO MM w hM NH hst => qA hS.ev hst.appF rfl fun hS => ?_) (fun v w hk hst => xo (qD (qD (⟨hS.ev.defs, hpan _ _ hk hst.appF.frame⟩)))))
  replace hS : Ss _ _ _ H [MM, MI, Mz, MA, LZ, MB, L0, L8] F _ _ := hS
  refine qB ?_
  replace hst := hS.st
  obtain ⟨hcl, hmust, hav2, hA⟩ := dn (vals' := [some (.slice L9 Mg.length Mk), some (.int .i64 L1), some (.slice Mu Mh.length Mx), some (.pointer Mw), some (.slice L9 Mg.length Mk), some (.int .i64 L1), some (.slice Mv Mi.length My), none, none, none]) 3 [(2, 3), (0, 2), (1, 2)] hA hcl hav hm hpre hk rfl rfl rfl rfl rfl rfl rfl
  clear hm hav
  refine y9 hA hst ho hcl hav2 hmust 7 [4, 5, 6] rfl rfl rfl rfl rfl (by exact ⟨nM rfl, nM rfl, nQ rfl (by exact qX (MJ rfl (D7 rfl) D0) rfl), trivial⟩) fun D l a w ho hcl hav hpre hm hE hk hA hst => ?_
  have hS := (Ss.mk hE hst).env2 (e' := [(62, .slice Mv Mi.length My)]) ⟨rfl, trivial⟩
  refine qQ rfl <| qF hS rfl Tryd.call83 (yV hG K Mi Mv My (Np _ _ _ (Mp.rdF (i := 1) rfl)) Nn (hS.st.part 0 [0, 1, 2, 3, 4, 5, 6, 7] (by kernel_rfl)) (qs hM) (fun MG NP M5 w hM NI hst => qA hS.ev hst.appF rfl fun hS => ?_) (fun v w hk hst => xo (qD (qD (⟨hS.ev.defs, hpan _ _ hk hst.appF.frame⟩)))))
  replace hS : Ss _ _ _ H [M5, MM, MI, Mz, MA, LZ, MB, L0, L8] F _ _ := hS
  refine qB ?_
  replace hst := hS.st
  obtain ⟨hcl, hmust, hav2, hA⟩ := dn (vals' := [some (.slice L9 Mg.length Mk), some (.int .i64 L1), some (.slice Mu Mh.length Mx), some (.pointer Mw), some (.slice L9 Mg.length Mk), some (.int .i64 L1), some (.slice Mv Mi.length My), some (.pointer MG), some (.pointer Mw), some (.pointer MG)]) 7 [(3, 7), (6, 7), (2, 3), (4, 6), (5, 6), (0, 2), (1, 2)] hA hcl hav hm hpre hk rfl rfl rfl rfl rfl rfl rfl
  clear hm hav
  refine yk hA hst ho hcl hmust [8, 9] rfl rfl rfl (by exact ⟨nA rfl, nA rfl, trivial⟩) fun a w hS => ?_
  replace hS := hS.env2 (e' := [(2, .pointer Mw), (3, .pointer MG)]) ⟨rfl, rfl, trivial⟩
  refine qe <| wp_ret ?_
  exact zD (rs := [2, 3]) hS rfl rfl (hret Mw NO MM MG NP M5 MV MB _ (q7 hM) NH NI NG (hS.st.pick [1, 0, 5, 6, 7] (by kernel_rfl)))
theorem uo {H : xR} {F : List qk} {w : World} {R : Ending → World → Prop} {kr : (Bool × Int × (List Int)) → Prop} {kp : Value → Prop} (hG : Gl H) (K : Nat) (LY : qx) (L8 : Nat) (LZ : qk) (L5 : Nat) (MD : qk) (L6 : Option Addr) (L9 : Nat) (L0 : qk) (L3 : xJ LZ L8 ([qL L5 0, .slice L6 LY.out_.length L9, .int .i64 LY.limit_]) 97) (Nn : xJ MD L5 ([.int .i64 LY.Reader_.place_.at_, xf LY.Reader_.text_]) 118) (L4 : xi 5 (ci .u8) 1 L6 LY.out_ L9 L0)
    (hS : St w H [LZ, MD, L0] F) (hm : (yi.m K LY).wp kr kp)
    (hret : ∀ (MA : Bool) (Mc : Int) (Mx : qk) (Mj : Option Addr) (Mk : Nat) (Ma : (List Int)) (My : qk) (Mz : qk) (w : World), kr (MA, Mc, Ma) → (xJ Mx L5 ([.int .i64 Mc, xf LY.Reader_.text_]) 118) → (xi 5 (ci .u8) 1 Mj Ma Mk My) → (xJ Mz L8 ([qL L5 0, .slice Mj Ma.length Mk, .int .i64 LY.limit_]) 97) → St w H [Mz, Mx, My] F → R (.returned (.bool MA)) w)
    (hpan : ∀ v w, kp v → St w H [] F → R (.panicked [⟨v, false, false⟩]) w) :
    Calls Tryd.prog 43 ⟨[qL L8 0]⟩ w R := by
 refine enter Tryd.func43 rfl Tryd.ntmps43 rfl hS fun a w hS => ?_
 have hM := hm; clear hm
 rw [yi.m] at hM
 refine qm <| sA hS rfl fun hS => qB <| qm <| sM hS rfl fun hS => qF hS rfl Tryd.call60 (z3 hG K LY (1 : Int) L8 LZ L5 MD L6 L9 L0 L3 Nn L4 (hS.st.part 3 [0, 1, 2] (by kernel_rfl)) (qs hM) (fun NS MB M5 w hM NM hst => qA hS.ev hst.appF rfl fun hS => ?_) (fun v w hk hst => xo (qD (⟨hS.ev.defs, hpan _ _ hk hst.appF.frame⟩))))
 replace hS : Ss _ _ _ H [LZ, M5, L0] F _ _ := hS
 refine sB hS rfl fun hS => zE (v := Value.bool) (x0 := (NS == (1 : Int))) hS (xy rfl) rfl fun L1 a w hz hS => ?_
 have hM := qy hz hM; clear hz
 refine qB <| wp_seq <| qm <| sM hS rfl fun hS => qF hS rfl Tryd.call60 (z3 hG K (qx.mk (qH.mk (qr.mk MB) LY.Reader_.text_) LY.out_ LY.limit_) (2 : Int) L8 LZ L5 M5 L6 L9 L0 L3 NM L4 (hS.st.part 3 [0, 1, 2] (by kernel_rfl)) (qs hM) (fun MQ L7 Mb w hM Mg hst => qA hS.ev hst.appF rfl fun hS => ?_) (fun v w hk hst => xo (qD (qD (⟨hS.ev.defs, hpan _ _ hk hst.appF.frame⟩)))))
 replace hS : Ss _ _ _ H [LZ, Mb, L0] F _ _ := hS
 refine qB <| xO <| qm <| sB hS rfl fun hS => zE (v := Value.bool) (x0 := (MQ == (0 : Int))) hS (xy rfl) rfl fun N2 a w hz hS => ?_
 have hM := qy hz hM; clear hz
 refine qB <| qG hS rfl hM (fun Nu hM => ?_) (fun Nu hM => ?_)
 ·refine zN ?_
  refine sM hS rfl fun hS => qF hS rfl Tryd.call61 (v6 hG K (qx.mk (qH.mk (qr.mk L7) LY.Reader_.text_) LY.out_ LY.limit_) L8 LZ L5 Mb L6 L9 L0 L3 Mg L4 (hS.st.part 3 [0, 1, 2] (by kernel_rfl)) (qs hM) (fun MC M6 NC NH MP M7 M8 w hM NN NO NP hst => qA hS.ev hst.appF rfl fun hS => ?_) (fun v w hk hst => xo (zR (qD (⟨hS.ev.defs, hpan _ _ hk hst.appF.frame⟩)))))
  replace hS : Ss _ _ _ H [M8, M6, M7] F _ _ := hS
  refine zp <| zy (qe ?_)
  refine qm <| sM hS rfl fun hS => sA hS rfl fun hS => qB <| wp_ret ?_
  exact zD (rs := [2]) hS rfl rfl (hret L1 MC M6 NC NH MP M7 M8 _ (q7 hM) NN NO NP (hS.st.pick [0, 1, 2] (by kernel_rfl)))
 ·refine wp_seq ?_
  refine zN <| sB hS rfl fun hS => zE (v := Value.bool) (x0 := (MQ == (1 : Int))) hS (xy rfl) rfl fun N3 a w hz hS => ?_
  have hM := qy hz hM; clear hz
  refine qB <| qG hS rfl hM (fun Nv hM => ?_) (fun Nv hM => ?_)
  ·refine zN ?_
   refine sM hS rfl fun hS => qF hS rfl Tryd.call63 (Z6 hG K  (hS.st.part 0 [0, 1, 2] (by kernel_rfl)) (qs hM) (fun N0 N4 NK N1 N5 NL w hM NQ NR hst => qA hS.ev hst.appF rfl fun hS => ?_) (fun v w hk hst => xo (zR (qD (⟨hS.ev.defs, hpan _ _ hk hst.appF.frame⟩)))))
   replace hS : Ss _ _ _ H [NK, NL, LZ, Mb, L0] F _ _ := hS
   refine sO hS (ex rfl rfl) rfl fun hS => sO hS (ex rfl rfl) rfl fun hS => ?_
   obtain ⟨NT, Ny, hM⟩ := ZM hM
   obtain ⟨NF, hA, Nq⟩ := NQ.get Ny
   obtain ⟨M9, ND, NI, Na, hF, No, Nw, Ns⟩ := Nq
   subst hA; subst hF
   replace hS := hS.front [0, 1, 2, 3, 4] (by kernel_rfl)
   replace hS := hS.splitF
   obtain ⟨NU, Nz, hM⟩ := ZM hM
   obtain ⟨NG, hA, Nr⟩ := NR.get Nz
   obtain ⟨Nb, NE, NJ, Nc, hF, Np, Nx, Nt⟩ := Nr
   subst hA; subst hF
   replace hS := hS.front [2, 0, 1, 3, 4, 5] (by kernel_rfl)
   replace hS := hS.splitF
   refine qF hS rfl Tryd.call62 (jn hG K (qx.mk (qH.mk (qr.mk L7) LY.Reader_.text_) LY.out_ LY.limit_) NT NU L8 LZ L5 Mb L6 L9 L0 NF M9 ND NI Na NG Nb NE NJ Nc L3 Mg L4 No Nw Ns Np Nx Nt (hS.st.part 7 [4, 5, 6, 2, 3, 0, 1] (by kernel_rfl)) (qs hM) (fun Md Ml MR MX Mh Mm Mn w hM Nd Nf Ng hst => qA hS.ev hst.appF rfl fun hS => ?_) (fun v w hk hst => xo (zR (qD (⟨hS.ev.defs, hpan _ _ hk hst.appF.frame⟩)))))
   replace hS : Ss _ _ _ H [Nb, Nc, M9, Na, Mn, Ml, Mm] F _ _ := hS
   refine zp <| zy (qe ?_)
   refine qm <| sM hS rfl fun hS => sA hS rfl fun hS => qB <| wp_ret ?_
   exact zD (rs := [2]) hS rfl rfl (hret L1 Md Ml MR MX Mh Mm Mn _ (q7 hM) Nd Nf Ng (hS.st.pick [4, 5, 6] (by kernel_rfl)))
  ·refine wp_seq ?_
   refine zN <| sB hS rfl fun hS => zE (v := Value.bool) (x0 := (MQ == (2 : Int))) hS (xy rfl) rfl fun NX a w hz hS => ?_
   have hM := qy hz hM; clear hz
   refine qB <| qG hS rfl hM (fun MK hM => ?_) (fun MK hM => ?_)
   ·refine zN ?_
    refine sM hS rfl fun hS => sM hS rfl fun hS => qF hS rfl Tryd.call64 (vV hG K (qx.mk (qH.mk (qr.mk L7) LY.Reader_.text_) LY.out_ LY.limit_) L8 LZ L5 Mb L6 L9 L0 L3 Mg L4 (hS.st.part 3 [0, 1, 2] (by kernel_rfl)) (qs hM) (fun NV NY M3 NW NZ M4 Me Mp w hM Nh Ni Nj hst => qA hS.ev hst.appF rfl fun hS => ?_) (fun v w hk hst => xo (zR (qD (⟨hS.ev.defs, hpan _ _ hk hst.appF.frame⟩)))))
    replace hS : Ss _ _ _ H [M3, M4, LZ, Mp, L0] F _ _ := hS
    refine sO hS (ex rfl rfl) rfl fun hS => sO hS (ex rfl rfl) rfl fun hS => ?_
    obtain ⟨NA, MN, hM⟩ := ZM hM
    obtain ⟨MV, hA, MG⟩ := Nh.get MN
    obtain ⟨Mq, MS, MY, Mr, hF, ME, ML, MI⟩ := MG
    subst hA; subst hF
    replace hS := hS.front [0, 1, 2, 3, 4] (by kernel_rfl)
    replace hS := hS.splitF
    obtain ⟨NB, MO, hM⟩ := ZM hM
    obtain ⟨MW, hA, MH⟩ := Ni.get MO
    obtain ⟨Ms, MT, MZ, Mt, hF, MF, MM, MJ⟩ := MH
    subst hA; subst hF
    replace hS := hS.front [2, 0, 1, 3, 4, 5] (by kernel_rfl)
    replace hS := hS.splitF
    refine qF hS rfl Tryd.call62 (jn hG K (qx.mk (qH.mk (qr.mk Me) LY.Reader_.text_) LY.out_ LY.limit_) NA NB L8 LZ L5 Mp L6 L9 L0 MV Mq MS MY Mr MW Ms MT MZ Mt L3 Nj L4 ME ML MI MF MM MJ (hS.st.part 7 [4, 5, 6, 2, 3, 0, 1] (by kernel_rfl)) (qs hM) (fun Mf Mu MU M0 Mi Mv Mw w hM Nk Nl Nm hst => qA hS.ev hst.appF rfl fun hS => ?_) (fun v w hk hst => xo (zR (qD (⟨hS.ev.defs, hpan _ _ hk hst.appF.frame⟩)))))
    replace hS : Ss _ _ _ H [Ms, Mt, Mq, Mr, Mw, Mu, Mv] F _ _ := hS
    refine zp <| zy (qe ?_)
    refine qm <| sM hS rfl fun hS => sA hS rfl fun hS => qB <| wp_ret ?_
    exact zD (rs := [2]) hS rfl rfl (hret L1 Mf Mu MU M0 Mi Mv Mw _ (q7 hM) Nk Nl Nm (hS.st.pick [4, 5, 6] (by kernel_rfl)))
   ·refine zN ?_
    refine qF hS rfl Tryd.call65 (xb hG K true (3 : Int) (hS.st.part 0 [0, 1, 2] (by kernel_rfl)) (qs hM) (fun  w hM  hst => qA hS.ev hst.appF rfl fun hS => ?_) (fun v w hk hst => xo (zR (qD (⟨hS.ev.defs, hpan _ _ hk hst.appF.frame⟩)))))
    replace hS : Ss _ _ _ H [LZ, Mb, L0] F _ _ := hS
    refine zp <| zy (qe ?_)
    refine qm <| sM hS rfl fun hS => sA hS rfl fun hS => qB <| wp_ret ?_
    exact zD (rs := [2]) hS rfl rfl (hret L1 L7 Mb L6 L9 LY.out_ L0 LZ _ (q7 hM) Mg L4 L3 (hS.st.pick [0, 1, 2] (by kernel_rfl)))
theorem Ze {H : xR} {F : List qk} {w : World} {R : Ending → World → Prop} {kr : Unit → Prop} {kp : Value → Prop} (hG : Gl H) (K : Nat) (LY : qH) (L0 : Nat) (LZ : qk) (L1 : xJ LZ L0 ([.int .i64 LY.place_.at_, xf LY.text_]) 118)
    (hS : St w H [LZ] F) (hm : (vm.m K LY).wp kr kp)
    (hret : ∀ (w : World), kr () → St w H [LZ] F → R (.returned (.int .i64 LY.place_.at_)) w) :
    Calls Tryd.prog 44 ⟨[qL L0 0]⟩ w R := by
 refine enter Tryd.func44 rfl Tryd.ntmps44 rfl hS fun a w hS => ?_
 have hM := hm; clear hm
 rw [vm.m] at hM
 refine qm <| sA hS rfl fun hS => qB <| wp_seq <| qm <| sM hS rfl fun hS => sO hS (Xz rfl rfl Tryd.runUnderlying94) rfl fun hS => qB <| Xl hS rfl <| wp_skip <| qe <| qm <| sM hS rfl fun hS => sO hS (yw rfl) rfl fun hS => sO hS (xv rfl Tryd.runUnderlying118 rfl Tryd.sizeOf63 rfl) rfl fun hS => sO hS (xv rfl Tryd.runUnderlying63 rfl Tryd.sizeOf3 rfl) rfl fun hS => sO hS (xY 0 rfl L1 rfl rfl Tryd.isAgg3) rfl fun hS => sA hS rfl fun hS => qB <| wp_ret ?_
 exact zD (rs := [2]) hS rfl rfl (hret _ (q7 hM) (hS.st.pick [0] (by kernel_rfl)))
theorem QW {H : xR} {F : List qk} {w : World} {R : Ending → World → Prop} {kr : ((List UInt8) × Int × Int) → Prop} {kp : Value → Prop} (hG : Gl H) (K : Nat) (Mu : List UInt8) (L1 : Int)
    (hS : St w H [] F) (hm : (zC.m K Mu L1).wp kr kp)
    (hret : ∀ (MC : List UInt8) (MD : Int) (ME : Int) (w : World), kr (MC, MD, ME) → St w H [] F → R (.returned (.tuple ⟨[xf MC, .int .i64 MD, .int .i64 ME]⟩)) w) :
    Calls Tryd.prog 21 ⟨[xf Mu, .int .i64 L1]⟩ w R := by
 refine DS Tryd.func21 rfl Tryd.ntmps21 rfl hS fun a w hS => ?_
 have hM := hm; clear hm
 rw [zC.m] at hM
 refine qm <| Qf ([xf ([] : List UInt8)]) hS Tryd.zeroValue9 rfl rfl fun w Mr MU ML hS => Qf ([.int .i64 (0 : Int)]) hS Tryd.zeroValue3 rfl rfl fun w Ms MV MM hS => Qf ([.int .i64 (0 : Int)]) hS Tryd.zeroValue28 rfl rfl fun w Mt MW Mp hS => qB <| wp_seq <| qm <| sM hS rfl fun hS => sB hS rfl fun hS => sM hS rfl fun hS => yS 2 false 10 (b := (decide (L1 < (0 : Int)))) (r := (decide (L1 > (1073741824 : Int)))) hS rfl rfl rfl rfl rfl rfl rfl (fun hb a w hS K hK => ?_) rfl fun a w hS => ?_
 ·refine z2 hS rfl rfl rfl hb (mv rfl) rfl fun a w hS => ?_
  refine z2 hS rfl rfl rfl hb (jk rfl rfl rfl) rfl fun a w hS => ?_
  exact zp (hK _ _ (hS.up 2 rfl rfl))
 refine qB <| qG hS rfl hM (fun M8 hM => ?_) (fun M8 hM => ?_)
 ·refine wp_seq ?_
  refine zN <| JC 2 ([xf ([] : List UInt8)]) hS rfl rfl ML rfl rfl rfl rfl Tryd.sizeOf9 fun w Nk MY hS => JC 1 ([.int .i64 (0 : Int)]) hS rfl rfl MM rfl rfl rfl rfl Tryd.sizeOf3 fun w Nl MZ hS => JC 0 ([.int .i64 (1 : Int)]) hS rfl rfl Mp rfl rfl rfl rfl Tryd.sizeOf28 fun w Nm M0 hS => qB <| wp_ret <| zm ?_
  exact Dr hS.ev (Zt (vs := [xf ([] : List UInt8), .int .i64 (0 : Int), .int .i64 (1 : Int)]) hS.ev hS.st rfl (by exact ⟨Dm 2 rfl MY rfl rfl Tryd.isAgg9, Dm 1 rfl MZ rfl rfl Tryd.isAgg3, Dm 0 rfl M0 rfl rfl Tryd.isAgg28, trivial⟩) (hret ([] : List UInt8) (0 : Int) (1 : Int) _ (q7 hM) (hS.st.pick [] (by kernel_rfl))))
 ·refine wp_skip ?_
  refine qe <| qm <| sO hS (Lj rfl rfl) rfl fun hS => Dq hS rfl fun a w hS => ?_
  obtain ⟨Mb, MS, hM⟩ := Bz hM
  have MT : ∀ v w a, Mb v → Ev 35 [⟨.fn (.func 41) ⟨[qL Mr 0, qL Ms 0, qL Mt 0]⟩, ⟨[]⟩⟩] [(4, qL Mr 0), (5, qL Ms 0), (6, qL Mt 0)] a → St w H [MU, MV, MW] F → bodyPostD Tryd.prog Tryd.f21 R (.panic [⟨v, false, false⟩]) a w := by
   intro v w a hk MA hst
   have hM := MS v hk
   rw [zC.h1] at hM
   obtain ⟨L3, M9, hM⟩ := ZM hM
   cases DP M9
   refine Gh MA hst Tryd.call41 Tryd.func41 rfl Tryd.ntmps41 rfl rfl rfl fun a w hS => qm <| sM hS rfl fun hS => sO hS (LF .neq rfl rfl Tryd.runUnderlying20 rfl) rfl fun hS => qB <| UI hS rfl <| za (vals := [some (.iface 92 (.agg ⟨[.int .i64 L3]⟩)), some (.agg ⟨[.int .i64 L3]⟩), some (.int .i64 L3), none, none, none]) hS xE rfl ?_
   intro l w ho hcl hA hst
   refine y9 hA hst ho hcl xx xF 3 [0, 1, 2] rfl rfl rfl rfl rfl (by exact ⟨nM rfl, nQ rfl (by exact qX (Lo rfl Tryd.runUnderlying92 rfl) rfl), nQ rfl (by exact qX (GJ rfl Tryd.runUnderlying92 rfl Tryd.isAgg28 rfl) rfl), trivial⟩) fun D l a w ho hcl hav hpre hm hE hk hA hst => ?_
   have hS := (Ss.mk hE hst).env2 (e' := [(0, qL Mr 0)]) ⟨rfl, trivial⟩
   refine qQ rfl <| JC 0 ([xf ([] : List UInt8)]) hS rfl rfl ML rfl rfl rfl rfl Tryd.sizeOf9 fun w Nn M3 hS => qB ?_
   replace hst := hS.st
   obtain ⟨hcl, hmust, hav2, hA⟩ := Xx (vals' := [some (.iface 92 (.agg ⟨[.int .i64 L3]⟩)), some (.agg ⟨[.int .i64 L3]⟩), some (.int .i64 L3), some undef, none, none]) 3 [] hA hcl hav hm hpre rfl rfl rfl rfl rfl
   clear hm hav
   refine y9 hA hst ho hcl hav2 hmust 4 [0, 1, 2] rfl rfl rfl rfl rfl (by exact ⟨nM rfl, nQ rfl (by exact qX (Lo rfl Tryd.runUnderlying92 rfl) rfl), nQ rfl (by exact qX (GJ rfl Tryd.runUnderlying92 rfl Tryd.isAgg28 rfl) rfl), trivial⟩) fun D l a w ho hcl hav hpre hm hE hk hA hst => ?_
   have hS := (Ss.mk hE hst).env2 (e' := [(1, qL Ms 0)]) ⟨rfl, trivial⟩
   refine qQ rfl <| JC 1 ([.int .i64 (0 : Int)]) hS rfl rfl MM rfl rfl rfl rfl Tryd.sizeOf3 fun w No M4 hS => qB ?_
   replace hst := hS.st
   obtain ⟨hcl, hmust, hav2, hA⟩ := Xx (vals' := [some (.iface 92 (.agg ⟨[.int .i64 L3]⟩)), some (.agg ⟨[.int .i64 L3]⟩), some (.int .i64 L3), some undef, some undef, none]) 4 [(3, 4)] hA hcl hav hm hpre rfl rfl rfl rfl rfl
   clear hm hav
   refine y9 hA hst ho hcl hav2 hmust 5 [0, 1, 2] rfl rfl rfl rfl rfl (by exact ⟨nM rfl, nQ rfl (by exact qX (Lo rfl Tryd.runUnderlying92 rfl) rfl), nQ rfl (by exact qX (GJ rfl Tryd.runUnderlying92 rfl Tryd.isAgg28 rfl) rfl), trivial⟩) fun D l a w ho hcl hav hpre hm hE hk hA hst => ?_
   have hS := (Ss.mk hE hst).env2 (e' := [(2, qL Mt 0), (9, .int .i64 L3)]) ⟨rfl, rfl, trivial⟩
   refine qQ rfl <| JC 2 ([.int .i64 L3]) hS rfl rfl Mp rfl rfl rfl rfl Tryd.sizeOf28 fun w Np M5 hS => qB ?_
   replace hst := hS.st
   obtain ⟨hcl, hmust, hav2, hA⟩ := Xx (vals' := [some (.iface 92 (.agg ⟨[.int .i64 L3]⟩)), some (.agg ⟨[.int .i64 L3]⟩), some (.int .i64 L3), some undef, some undef, some undef]) 5 [(0, 5), (1, 5), (2, 5), (3, 5), (4, 5)] hA hcl hav hm hpre rfl rfl rfl rfl rfl
   clear hm hav
   refine yk hA hst ho hcl hmust [] rfl rfl rfl trivial fun a w hS => ?_
   replace hS := hS.env2 (e' := []) trivial
   exact DC hS rfl (Zt (vs := [xf ([] : List UInt8), .int .i64 (0 : Int), .int .i64 L3]) MA hS.st rfl (by exact ⟨Dm 0 rfl M3 rfl rfl Tryd.isAgg9, Dm 1 rfl M4 rfl rfl Tryd.isAgg3, Dm 2 rfl M5 rfl rfl Tryd.isAgg28, trivial⟩) (hret ([] : List UInt8) (0 : Int) L3 _ (q7 hM) (hS.st.pick [] (by kernel_rfl))))
  rw [zC.j2] at hM
  refine qB <| qm <| sM hS rfl fun hS => qF hS rfl Tryd.call42 (VF hG K Mu (hS.st.part 0 [0, 1, 2] (by kernel_rfl)) (qs hM) (fun L4 MX w hM Nc hst => qA hS.ev hst.appF rfl fun hS => ?_))
  replace hS : Ss _ _ _ H [MX, MW, MV, MU] F _ _ := hS
  refine sM hS rfl fun hS => sO hS (Z9 ([qL L4 0, .slice none 0 0, .int .i64 L1]) [(0, 1), (1, 1), (2, 1)] Tryd.zeroValue97 Tryd.runUnderlying97 (by intro w; simp [Tryd.sizeOf3, Tryd.sizeOf32, Tryd.sizeOf94]) rfl rfl) rfl fun hS => bx ([qL L4 0, .slice none 0 0, .int .i64 L1]) hS rfl rfl rfl fun w L0 Na M6 hS => ?_
  obtain ⟨Nb, M7, hS⟩ := hS.nilV 5 (ci .u8) 1
  refine sA hS rfl fun hS => qB <| zj (fun a w => ∃ (LY : Int) (L9 : qk) (L6 : Option Addr) (L7 : Nat) (LZ : (List Int)) (Mi : qk) (Mj : qk), Ss 35 [⟨.fn (.func 41) ⟨[qL Mr 0, qL Ms 0, qL Mt 0]⟩, ⟨[]⟩⟩] [(4, qL Mr 0), (5, qL Ms 0), (6, qL Mt 0), (7, qL L0 0)] H [MU, MV, MW, Mj, L9, Mi] F a w ∧ (xJ L9 L4 ([.int .i64 LY, xf Mu]) 118) ∧ (xi 5 (ci .u8) 1 L6 LZ L7 Mi) ∧ (xJ Mj L0 ([qL L4 0, .slice L6 LZ.length L7, .int .i64 L1]) 97) ∧ (zC.j4 K Mu LY LZ).wp kr Mb) (fun Nf MP => ?_) ?_
  ·refine xO ?_
   refine zu (fun MB a w => ∃ (L8 : Int) (Mf : qk) (Mc : Option Addr) (Me : Nat) (L5 : (List Int)) (Mg : qk) (Mh : qk), Ss 35 [⟨.fn (.func 41) ⟨[qL Mr 0, qL Ms 0, qL Mt 0]⟩, ⟨[]⟩⟩] [(4, qL Mr 0), (5, qL Ms 0), (6, qL Mt 0), (7, qL L0 0)] H [MU, MV, MW, Mh, Mf, Mg] F a w ∧ (xJ Mf L4 ([.int .i64 L8, xf Mu]) 118) ∧ (xi 5 (ci .u8) 1 Mc L5 Me Mg) ∧ (xJ Mh L0 ([qL L4 0, .slice Mc L5.length Me, .int .i64 L1]) 97) ∧ (zC.l3 K Mu L1 MB L8 L5).wp kr Mb) K ?_ ?_ ?_
   ·exact ⟨(0 : Int), MX, none, 0, ([] : List Int), Nb, Na, hS.to [5, 4, 3, 1, 2, 0] (by kernel_rfl) ⟨rfl, rfl, rfl, rfl, trivial⟩, Nc, M7, M6, hM⟩
   ·intro a w hI; obtain ⟨_, _, _, _, _, _, _, _, _, _, _, hM⟩ := hI; exact zt hM
   ·intro MB a w hI Nd MO
    obtain ⟨L8, Mf, Mc, Me, L5, Mg, Mh, hS, MF, MQ, MG, hM⟩ := hI
    rw [zC.l3] at hM
    refine wp_seq <| qm <| sM hS rfl fun hS => qF hS rfl Tryd.call43 (uo hG K (qx.mk (qH.mk (qr.mk L8) Mu) L5 L1) L0 Mh L4 Mf Mc Me Mg MG MF MQ (hS.st.part 3 [3, 4, 5, 0, 1, 2] (by kernel_rfl)) (qs hM) (fun Nj Md Ml Mv Mw Mk Mm Mn w hM Mx My Mz hst => qA hS.ev hst.appF rfl fun hS => ?_) (fun v w hk hst => xo (qD (qD (qD (zR (qD (MT _ _ _ hk (hS.env2 (e' := [(4, qL Mr 0), (5, qL Ms 0), (6, qL Mt 0)]) ⟨rfl, rfl, rfl, trivial⟩).ev (hst.appF.pick [0, 1, 2] (by kernel_rfl))))))))))
    replace hS : Ss _ _ _ H [Mn, Ml, Mm, MU, MV, MW] F _ _ := hS
    refine sO hS (un rfl rfl) rfl fun hS => qB <| qG hS rfl hM (fun MR hM => ?_) (fun MR hM => ?_)
    ·refine wp_skip ?_
     refine qe <| xO <| wp_skip <| zy (qe ?_)
     exact MO _ _ ⟨Md, Ml, Mv, Mw, Mk, Mm, Mn, hS.to [3, 4, 5, 0, 1, 2] (by kernel_rfl) ⟨rfl, rfl, rfl, rfl, trivial⟩, Mx, My, Mz, hM⟩
    ·refine wp_exit ?_
     refine qE (qE (ze (qe ?_)))
     exact MP _ _ ⟨Md, Ml, Mv, Mw, Mk, Mm, Mn, hS.to [3, 4, 5, 0, 1, 2] (by kernel_rfl) ⟨rfl, rfl, rfl, rfl, trivial⟩, Mx, My, Mz, hM⟩
  ·intro a w hI
   obtain ⟨LY, L9, L6, L7, LZ, Mi, Mj, hS, MH, Mq, Ma, hM⟩ := hI
   rw [zC.j4] at hM
   refine wp_seq <| za (vals := [some (qL L0 0), some (qL L0 0), some (qL L0 1), some (.slice L6 LZ.length L7), some (xf (LZ.map uh)), some (qL L0 0), some (qL L0 0), some (qL L0 0), some (qL L4 0), none, none, none, none, none, none]) hS xE rfl ?_
   intro l w ho hcl hA hst
   refine y9 hA hst ho hcl xx xF 9 [0, 1, 2, 3, 4, 5, 6, 7, 8] rfl rfl rfl rfl rfl (by exact ⟨nM rfl, nQ rfl (by exact qX (yw rfl) rfl), nQ rfl (by exact qX (xv rfl Tryd.runUnderlying97 rfl Tryd.sizeOf32 rfl) rfl), nQ rfl (by exact qX (xY 3 rfl Ma rfl rfl Tryd.isAgg32) rfl), nQ rfl (by exact qX (Gr rfl Tryd.runUnderlying32 Tryd.runUnderlying5 Tryd.runUnderlying9 (Mq.rd (i := 5) rfl)) rfl), nM rfl, nQ rfl (by exact qX (yw rfl) rfl), nQ rfl (by exact qX (xv rfl Tryd.runUnderlying97 rfl Tryd.sizeOf94 rfl) rfl), nQ rfl (by exact qX (xY 3 rfl Ma rfl rfl Tryd.isAgg94) rfl), trivial⟩) fun D l a w ho hcl hav hpre hm hE hk hA hst => ?_
   have hS := (Ss.mk hE hst).env2 (e' := [(31, qL L4 0)]) ⟨rfl, trivial⟩
   refine qQ rfl <| qF hS rfl Tryd.call44 (Ze hG K (qH.mk (qr.mk LY) Mu) L4 L9 MH (hS.st.part 1 [4, 0, 1, 2, 3, 5] (by kernel_rfl)) (qs hM) (fun  w hM  hst => qA hS.ev hst.appF rfl fun hS => ?_))
   replace hS : Ss _ _ _ H [L9, MU, MV, MW, Mj, Mi] F _ _ := hS
   refine qB ?_
   replace hst := hS.st
   obtain ⟨hcl, hmust, hav2, hA⟩ := dn (vals' := [some (qL L0 0), some (qL L0 0), some (qL L0 1), some (.slice L6 LZ.length L7), some (xf (LZ.map uh)), some (qL L0 0), some (qL L0 0), some (qL L0 0), some (qL L4 0), some (.int .i64 LY), some (.int .i64 (qh (LY + (7 : Int)))), some (.int .i64 (xX .i64 (qh (LY + (7 : Int))) (8 : Int))), none, none, none]) 9 [(8, 9), (7, 8), (6, 7), (5, 6)] hA hcl hav hm hpre hk rfl rfl rfl rfl rfl rfl rfl
   clear hm hav
   refine y9 hA hst ho hcl hav2 hmust 12 [0, 1, 2, 3, 4, 10, 11] rfl rfl rfl rfl rfl (by exact ⟨nM rfl, nQ rfl (by exact qX (yw rfl) rfl), nQ rfl (by exact qX (xv rfl Tryd.runUnderlying97 rfl Tryd.sizeOf32 rfl) rfl), nQ rfl (by exact qX (xY 4 rfl Ma rfl rfl Tryd.isAgg32) rfl), nQ rfl (by exact qX (Gr rfl Tryd.runUnderlying32 Tryd.runUnderlying5 Tryd.runUnderlying9 (Mq.rd (i := 5) rfl)) rfl), nB rfl, nQ rfl (by exact qX (quo rfl rfl rfl) rfl), trivial⟩) fun D l a w ho hcl hav hpre hm hE hk hA hst => ?_
   have hS := (Ss.mk hE hst).env2 (e' := [(4, qL Mr 0), (27, xf (LZ.map uh))]) ⟨rfl, rfl, trivial⟩
   refine qQ rfl <| JC 1 ([xf (LZ.map uh)]) hS rfl rfl ML rfl rfl rfl rfl Tryd.sizeOf9 fun w Ng MI hS => qB ?_
   replace hst := hS.st
   obtain ⟨hcl, hmust, hav2, hA⟩ := Xx (vals' := [some (qL L0 0), some (qL L0 0), some (qL L0 1), some (.slice L6 LZ.length L7), some (xf (LZ.map uh)), some (qL L0 0), some (qL L0 0), some (qL L0 0), some (qL L4 0), some (.int .i64 LY), some (.int .i64 (qh (LY + (7 : Int)))), some (.int .i64 (xX .i64 (qh (LY + (7 : Int))) (8 : Int))), some undef, none, none]) 12 [(0, 12), (1, 12), (2, 12), (3, 12), (4, 12), (9, 12), (8, 9), (7, 8), (6, 7), (5, 6)] hA hcl hav hm hpre rfl rfl rfl rfl rfl
   clear hm hav
   refine y9 hA hst ho hcl hav2 hmust 13 [10, 11] rfl rfl rfl rfl rfl (by exact ⟨nB rfl, nQ rfl (by exact qX (quo rfl rfl rfl) rfl), trivial⟩) fun D l a w ho hcl hav hpre hm hE hk hA hst => ?_
   have hS := (Ss.mk hE hst).env2 (e' := [(5, qL Ms 0), (34, .int .i64 (xX .i64 (qh (LY + (7 : Int))) (8 : Int)))]) ⟨rfl, rfl, trivial⟩
   refine qQ rfl <| JC 2 ([.int .i64 (xX .i64 (qh (LY + (7 : Int))) (8 : Int))]) hS rfl rfl MM rfl rfl rfl rfl Tryd.sizeOf3 fun w Nh MJ hS => qB ?_
   replace hst := hS.st
   obtain ⟨hcl, hmust, hav2, hA⟩ := Xx (vals' := [some (qL L0 0), some (qL L0 0), some (qL L0 1), some (.slice L6 LZ.length L7), some (xf (LZ.map uh)), some (qL L0 0), some (qL L0 0), some (qL L0 0), some (qL L4 0), some (.int .i64 LY), some (.int .i64 (qh (LY + (7 : Int)))), some (.int .i64 (xX .i64 (qh (LY + (7 : Int))) (8 : Int))), some undef, some undef, none]) 13 [(0, 13), (1, 13), (2, 13), (3, 13), (4, 13), (5, 13), (6, 13), (7, 13), (8, 13), (9, 13), (10, 13), (11, 13), (12, 13)] hA hcl hav hm hpre rfl rfl rfl rfl rfl
   clear hm hav
   refine y9 hA hst ho hcl hav2 hmust 14 [] rfl rfl rfl rfl rfl trivial fun D l a w ho hcl hav hpre hm hE hk hA hst => ?_
   have hS := (Ss.mk hE hst).env2 (e' := [(6, qL Mt 0)]) ⟨rfl, trivial⟩
   refine qQ rfl <| JC 3 ([.int .i64 (0 : Int)]) hS rfl rfl Mp rfl rfl rfl rfl Tryd.sizeOf28 fun w Ni MK hS => qB ?_
   replace hst := hS.st
   obtain ⟨hcl, hmust, hav2, hA⟩ := Xx (vals' := [some (qL L0 0), some (qL L0 0), some (qL L0 1), some (.slice L6 LZ.length L7), some (xf (LZ.map uh)), some (qL L0 0), some (qL L0 0), some (qL L0 0), some (qL L4 0), some (.int .i64 LY), some (.int .i64 (qh (LY + (7 : Int)))), some (.int .i64 (xX .i64 (qh (LY + (7 : Int))) (8 : Int))), some undef, some undef, some undef]) 14 [(0, 14), (1, 14), (2, 14), (3, 14), (4, 14), (5, 14), (6, 14), (7, 14), (8, 14), (9, 14), (10, 14), (11, 14), (12, 14), (13, 14)] hA hcl hav hm hpre rfl rfl rfl rfl rfl
   clear hm hav
   refine yk hA hst ho hcl hmust [] rfl rfl rfl trivial fun a w hS => ?_
   replace hS := hS.env2 (e' := [(4, qL Mr 0), (5, qL Ms 0), (6, qL Mt 0)]) ⟨rfl, rfl, rfl, trivial⟩
   refine qe <| wp_ret ?_
   have MN := hS.ev
   refine Gi hS Tryd.call41 Tryd.func41 rfl Tryd.ntmps41 rfl rfl rfl fun a w hS => qm <| sM hS rfl fun hS => sO hS (LG .neq rfl Tryd.runUnderlying20 rfl) rfl fun hS => qB <| Xl hS rfl <| wp_skip ?_
   exact DC hS rfl (Zt (vs := [xf (LZ.map uh), .int .i64 (xX .i64 (qh (LY + (7 : Int))) (8 : Int)), .int .i64 (0 : Int)]) MN hS.st rfl (by exact ⟨Dm 1 rfl MI rfl rfl Tryd.isAgg9, Dm 2 rfl MJ rfl rfl Tryd.isAgg3, Dm 3 rfl MK rfl rfl Tryd.isAgg28, trivial⟩) (hret (LZ.map uh) (xX .i64 (qh (LY + (7 : Int))) (8 : Int)) (0 : Int) _ (q7 hM) (hS.st.pick [] (by kernel_rfl))))
theorem ZF {H : xR} {F : List qk} {w : World} {R : Ending → World → Prop} {kr : Int → Prop} {kp : Value → Prop} (hG : Gl H) (K : Nat) (L3 : Int) (Mf : List UInt8)
    (hS : St w H [] F) (hm : (q8.m K L3 Mf).wp kr kp)
    (hret : ∀ (Ml : Int) (w : World), kr Ml → St w H [] F → R (.returned (.int .u32 Ml)) w) :
    Calls Tryd.prog 25 ⟨[.int .u32 L3, xf Mf]⟩ w R := by
 refine enter Tryd.func25 rfl Tryd.ntmps25 rfl hS fun a w hS => ?_
 have hM := hm; clear hm
 rw [q8.m] at hM
 refine qm <| sA hS rfl fun hS => qB <| qm <| sM hS rfl fun hS => sB hS rfl fun hS => sO hS (rem rfl rfl rfl) rfl fun hS => sM hS rfl fun hS => sO hS (shr rfl rfl rfl) rfl fun hS => sO hS (rem rfl rfl rfl) rfl fun hS => zE (v := Value.int .u32) (x0 := (yW (xD .u32 L3 (65535 : Int)) (65521 : Int))) hS (xy rfl) rfl fun Mw a w hz hS => ?_
 have hM := qy hz hM; clear hz
 refine zE (v := Value.int .u32) (x0 := (yW (z9 .u32 L3 (16 : Int)) (65521 : Int))) hS (xy rfl) rfl fun Mx a w hz hS => ?_
 have hM := qy hz hM; clear hz
 refine qB <| zj (fun a w => ∃ (Ma : Int) (Mb : Int), Ss 46 [] [(5, .int .u32 Ma), (6, .int .u32 Mb)] H [] F a w ∧ (q8.j4 K Ma Mb).wp kr kp) (fun MC Mq => ?_) ?_
 ·refine xO ?_
  refine zu (fun L9 a w => ∃ (LY : List UInt8) (L5 : Int) (L7 : Int), Ss 46 [] [(1, xf LY), (5, .int .u32 L5), (6, .int .u32 L7)] H [] F a w ∧ (q8.l1 K L9 LY L5 L7).wp kr kp) K ?_ ?_ ?_
  ·exact ⟨Mf, Mw, Mx, hS.to [] (by kernel_rfl) ⟨rfl, rfl, rfl, trivial⟩, hM⟩
  ·intro a w hI; obtain ⟨_, _, _, _, hM⟩ := hI; exact zt hM
  ·intro L9 a w hI MB Mp
   obtain ⟨LY, L5, L7, hS, hM⟩ := hI
   rw [q8.l1] at hM
   refine wp_seq <| qm <| sM hS rfl fun hS => sO hS (uu rfl Tryd.runUnderlying9) rfl fun hS => sB hS rfl fun hS => qB <| qG hS rfl hM (fun Mr hM => ?_) (fun Mr hM => ?_)
   ·refine wp_skip ?_
    refine qe <| xO <| qm <| sM hS rfl fun hS => sO hS (uu rfl Tryd.runUnderlying9) rfl fun hS => sO hS (VS rfl rfl) rfl fun hS => zE (v := Value.int .i64) (x0 := (if (LY.length : Int) < (5000 : Int) then (LY.length : Int) else (5000 : Int))) hS (xy rfl) rfl fun LZ a w hz hS => ?_
    have hM := qy hz hM; clear hz
    refine qB <| zj (fun a w => ∃ (L0 : Int) (L1 : Int), Ss 46 [] [(1, xf LY), (5, .int .u32 L0), (6, .int .u32 L1), (7, .int .i64 LZ)] H [] F a w ∧ (q8.j3 K (q8.l1 K L9) LY LZ L0 L1).wp kr kp) (fun MA Mn => ?_) ?_
    ·refine wp_seq ?_
     refine zN <| sM hS rfl fun hS => sM hS rfl fun hS => qB <| xO <| zu (fun Mj a w => ∃ (L6 : Int) (L8 : Int) (L4 : Int), Ss 46 [] [(1, xf LY), (5, .int .u32 L6), (6, .int .u32 L8), (7, .int .i64 LZ), (21, .int .i64 LZ), (22, .int .i64 L4)] H [] F a w ∧ (q8.l2 K (q8.l1 K L9) LY LZ Mj L6 L8 L4).wp kr kp) K ?_ ?_ ?_
     ·exact ⟨L5, L7, (0 : Int), hS.to [] (by kernel_rfl) ⟨rfl, rfl, rfl, rfl, rfl, rfl, trivial⟩, hM⟩
     ·intro a w hI; obtain ⟨_, _, _, _, hM⟩ := hI; exact zt hM
     ·intro Mj a w hI Mz Mm
      obtain ⟨L6, L8, L4, hS, hM⟩ := hI
      rw [q8.l2] at hM
      refine qm <| sB hS rfl fun hS => qB <| wp_seq <| qG hS rfl hM (fun Ms hM => ?_) (fun Ms hM => ?_)
      ·refine wp_skip ?_
       refine qe <| wp_seq <| xO <| qm <| sM hS rfl fun hS => sA hS rfl fun hS => qB <| qm <| sM hS rfl fun hS => sM hS rfl fun hS => sM hS rfl fun hS => ?_
       obtain ⟨Mt, hM⟩ := qK hM
       refine sO hS (VQ rfl rfl Tryd.runUnderlying9 Mt) rfl fun hS => sO hS (vU rfl Tryd.runUnderlying5 Tryd.runUnderlying25) rfl fun hS => sB hS rfl fun hS => zE (v := Value.int .u32) (x0 := (wr .u32 (L6 + (wr .u32 ((rd LY L4).toNat : Int))))) hS (xy rfl) rfl fun Mk a w hz hS => ?_
       have hM := qy hz hM; clear hz
       refine qB <| zN <| sM hS rfl fun hS => sM hS rfl fun hS => sB hS rfl fun hS => zE (v := Value.int .u32) (x0 := (wr .u32 (L8 + Mk))) hS (xy rfl) rfl fun My a w hz hS => ?_
       have hM := qy hz hM; clear hz
       refine zp <| zy (qe ?_)
       refine zN <| sB hS rfl fun hS => sM hS rfl fun hS => zp <| qe ?_
       exact Mm _ _ ⟨Mk, My, (qh (L4 + (1 : Int))), hS.to [] (by kernel_rfl) ⟨rfl, rfl, rfl, rfl, rfl, rfl, trivial⟩, hM⟩
      ·refine wp_exit ?_
       refine qE (qE (ze (qe ?_)))
       exact Mn _ _ ⟨L6, L8, hS.to [] (by kernel_rfl) ⟨rfl, rfl, rfl, rfl, trivial⟩, hM⟩
    ·intro a w hI
     obtain ⟨L0, L1, hS, hM⟩ := hI
     rw [q8.j3] at hM
     obtain ⟨Mu, hM⟩ := qK hM
     obtain ⟨Mh, Mc⟩ : ∃ x, x = (yW L0 (65521 : Int)) := ⟨_, rfl⟩
     replace hM := qy Mc hM
     obtain ⟨Mi, Md⟩ : ∃ x, x = (yW L1 (65521 : Int)) := ⟨_, rfl⟩
     replace hM := qy Md hM
     obtain ⟨Mg, Me⟩ : ∃ x, x = (sub LY LZ (LY.length : Int)) := ⟨_, rfl⟩
     replace hM := qy Me hM
     refine za (vals := [some (.int .u32 L0), some (.int .u32 (yW L0 (65521 : Int))), some (.int .u32 L1), some (.int .u32 (yW L1 (65521 : Int))), some (xf LY), some (.int .i64 LZ), some (xf (sub LY LZ (LY.length : Int))), some (.int .u32 Mh), some (.int .u32 Mi), some (xf Mg)]) hS xE rfl ?_
     intro l w ho hcl hA hst
     refine yk hA hst ho hcl xF [0, 1, 2, 3, 4, 5, 6, 7, 8, 9] rfl rfl rfl (by exact ⟨nM rfl, nQ rfl (by exact qX (rem rfl rfl rfl) rfl), nM rfl, nQ rfl (by exact qX (rem rfl rfl rfl) rfl), nM rfl, nM rfl, nQ rfl (by exact qX (Gk rfl Tryd.runUnderlying9 (D7 rfl) D0 Mu) rfl), nQ rfl (by exact qX (xy rfl) (congrArg (Value.int .u32) Mc.symm)), nQ rfl (by exact qX (xy rfl) (congrArg (Value.int .u32) Md.symm)), nQ rfl (by exact qX (xy rfl) (congrArg (xf) Me.symm)), trivial⟩) fun a w hS => ?_
     replace hS := hS.env2 (e' := [(1, xf Mg), (5, .int .u32 Mh), (6, .int .u32 Mi)]) ⟨rfl, rfl, rfl, trivial⟩
     refine zy (qe ?_)
     exact Mp _ _ ⟨Mg, Mh, Mi, hS.to [] (by kernel_rfl) ⟨rfl, rfl, rfl, trivial⟩, hM⟩
   ·refine wp_exit ?_
    refine qE (qE (ze (qe ?_)))
    exact Mq _ _ ⟨L5, L7, hS.to [] (by kernel_rfl) ⟨rfl, rfl, trivial⟩, hM⟩
 ·intro a w hI
  obtain ⟨Ma, Mb, hS, hM⟩ := hI
  rw [q8.j4] at hM
  refine qm <| sM hS rfl fun hS => sO hS (shl rfl rfl rfl) rfl fun hS => sM hS rfl fun hS => sB hS rfl fun hS => zE (v := Value.int .u32) (x0 := (Qo .u32 (z6 .u32 Mb (16 : Int)) Ma)) hS (xy rfl) rfl fun Mv a w hz hS => ?_
  have hM := qy hz hM; clear hz
  refine qB <| wp_ret ?_
  exact zD (rs := [4]) hS rfl rfl (hret Mv _ (q7 hM) (hS.st.pick [] (by kernel_rfl)))
theorem Q9 {H : xR} {F : List qk} {w : World} {R : Ending → World → Prop} {kr : Int → Prop} {kp : Value → Prop} (hG : Gl H) (K : Nat) (LY : List UInt8)
    (hS : St w H [] F) (hm : (jN.m K LY).wp kr kp)
    (hret : ∀ (LZ : Int) (w : World), kr LZ → St w H [] F → R (.returned (.int .u32 LZ)) w) :
    Calls Tryd.prog 13 ⟨[xf LY]⟩ w R := by
 refine enter Tryd.func13 rfl Tryd.ntmps13 rfl hS fun a w hS => ?_
 have hM := hm; clear hm
 rw [jN.m] at hM
 refine qm <| sA hS rfl fun hS => qB <| qm <| sM hS rfl fun hS => qF hS rfl Tryd.call25 (ZF hG K (1 : Int) LY (hS.st.part 0 [] (by kernel_rfl)) (qs hM) (fun L0 w hM  hst => qA hS.ev hst.appF rfl fun hS => ?_))
 replace hS : Ss _ _ _ H [] F _ _ := hS
 refine sA hS rfl fun hS => qB <| wp_ret ?_
 exact zD (rs := [2]) hS rfl rfl (hret L0 _ (q7 hM) (hS.st.pick [] (by kernel_rfl)))
end Go.TrydS

