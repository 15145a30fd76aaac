/- Printed by a program of mine: each Go function answers what its model answers; conditions: what each theorem asks of memory. -/
import Derived.Test.YtkphnjbmheoifaaMneema
import Derived.Test.YtkphnjbmheoifaaChecked
set_option linter.unusedVariables false
set_option linter.unusedSimpArgs false
set_option maxRecDepth 100000
namespace Go.TryS
open Go Go.Sl Go.Mo Go.Proofs
attribute [local irreducible] qN.wp
theorem xc : Try.prog.follows .mixedOrders = true := by kernel_rfl
def _root_.Go.Mo.zp.cells (x : zp) : List Value := [.int .i64 x.at_]
def _root_.Go.Mo.qM.cells (x : qM) : List Value := [.int .i64 x.place_.at_, yF x.text_]
theorem X.el3 : El Try.prog 3 1 8 := ⟨_, _, Try.typeInfo3, rfl, rfl, rfl, rfl⟩
theorem X.el22 : El Try.prog 22 1 24 := ⟨_, _, Try.typeInfo22, rfl, rfl, rfl, rfl⟩
theorem X.el68 : El Try.prog 68 1 24 := ⟨_, _, Try.typeInfo68, rfl, rfl, rfl, rfl⟩
theorem X.el70 : El Try.prog 70 2 32 := ⟨_, _, Try.typeInfo70, rfl, rfl, rfl, rfl⟩
theorem zA : ∀ x, ∀ u ∈ (ci .i64) x, u.oneCell' = true := fun x u hu => by cases hu with | head => rfl | tail _ h => cases h
structure Gl (H : zB) : Prop where
  any : True
theorem x4 {H : zB} {F : List qr} {w : World} {R : Ending → World → Prop} {kr : ((List Int) × Bool) → Prop} {kp : Value → Prop} (hG : Gl H) (K : Nat) (Ya : List Int) (Yw : Option Addr) (Yx : Nat) (Yt : xx H [] F (ci .i64) Yw Ya) (YP : Ya.length ≤ Yx)
    (hS : St w H [] F) (hm : (zu.m K Ya).wp kr kp)
    (hret : ∀ (YG : (List Int)) (YJ : Bool) (w : World), kr (YG, YJ) → (YG.length = 16) → St w H [] F → R (.returned (.tuple ⟨[.agg ⟨YG.flatMap (ci .i64)⟩, .bool YJ]⟩)) w) :
    Calls Try.prog 26 ⟨[.slice Yw Ya.length Yx]⟩ w R := by
 refine enter Try.func26 rfl Try.ntmps26 rfl hS fun a w hS => ?_
 have hM := hm; clear hm
 rw [zu.m] at hM
 refine qo <| Zk ((List.replicate 16 (0 : Int)).flatMap (ci .i64)) hS Try.zeroValue56 rfl rfl fun w Yh YK Yk hS => sA hS rfl fun hS => qz <| wp_seq <| qo <| sM hS rfl fun hS => sO hS (zC rfl Try.runUnderlying22) rfl fun hS => sB hS rfl fun hS => qz <| qv hS rfl hM (fun YC hM => ?_) (fun YC hM => ?_)
 ·refine wp_seq ?_
  refine zh <| sO hS (ug (xs := (List.replicate 16 (0 : Int))) (g := (ci .i64)) (pre := []) (post := []) 0 rfl Yk rfl (by simp) rfl (zd (g := (ci .i64)) (sz := 1) (fun _ => rfl) (List.length_replicate ..)) Try.isAgg56 Try.sizeOf56) rfl fun hS => vU (xs := (List.replicate 16 (0 : Int))) (ys := (List.replicate 16 (0 : Int))) (g := (ci .i64)) (pre := []) (post := []) 0 hS rfl rfl Yk rfl (by simp) rfl (zd (g := (ci .i64)) (sz := 1) (fun _ => rfl) (List.length_replicate ..)) (zd (g := (ci .i64)) (sz := 1) (fun _ => rfl) (List.length_replicate ..)) (zA) Try.sizeOf56 fun w YL Yl hS => ?_
  replace Yl : xw YL Yh ((List.replicate 16 (0 : Int)).flatMap (ci .i64)) 56 := by simpa using Yl
  refine sA hS rfl fun hS => qz <| wp_ret <| qy ?_
  exact vy (vs := [.agg ⟨(List.replicate 16 (0 : Int)).flatMap (ci .i64)⟩, .bool false]) hS rfl (by exact ⟨Xh 0 rfl Yl rfl (zd (g := (ci .i64)) (sz := 1) (fun _ => rfl) (List.length_replicate ..)) Try.isAgg56 Try.sizeOf56, Xv rfl, trivial⟩) (hret (List.replicate 16 (0 : Int)) false _ (qQ hM) (List.length_replicate ..) (hS.st.pick [] (by kernel_rfl)))
 ·refine wp_skip ?_
  refine qh <| qR (fun a w => ∃ (Ye : (List Int)) (Yy : qr), Ss 31 [] [(2, xg Yh 0)] H [Yy] F a w ∧ (Ye.length = 16) ∧ (xw Yy Yh (Ye.flatMap (ci .i64)) 56) ∧ (zu.j2 K Ye).wp kr kp) (fun YR YB => ?_) ?_
  ·refine wp_seq ?_
   refine zh <| sM hS rfl fun hS => sO hS (zC rfl Try.runUnderlying22) rfl fun hS => sM hS rfl fun hS => qz <| zP <| qU (fun YI a w => ∃ (Yb : (List Int)) (Yv : qr) (Yu : Int), Ss 31 [] [(2, xg Yh 0), (10, .slice Yw Ya.length Yx), (11, .int .i64 (Ya.length : Int)), (12, .int .i64 Yu)] H [Yv] F a w ∧ (Yb.length = 16) ∧ (xw Yv Yh (Yb.flatMap (ci .i64)) 56) ∧ (zu.l1 K Ya YI Yb Yu).wp kr kp) K ?_ ?_ ?_
   ·exact ⟨(List.replicate 16 (0 : Int)), YK, (0 : Int), hS.to [0] (by kernel_rfl) ⟨rfl, rfl, rfl, rfl, trivial⟩, (List.length_replicate ..), Yk, hM⟩
   ·intro a w hI; obtain ⟨_, _, _, _, _, _, hM⟩ := hI; exact qS hM
   ·intro YI a w hI YQ YA
    obtain ⟨Yb, Yv, Yu, hS, Yc, Yf, hM⟩ := hI
    rw [zu.l1] at hM
    refine qo <| sB hS rfl fun hS => qz <| wp_seq <| qv hS rfl hM (fun YD hM => ?_) (fun YD hM => ?_)
    ·refine wp_skip ?_
     refine qh <| wp_seq <| zP <| wp_seq <| zh ?_
     obtain ⟨Yr, hM⟩ := qx hM
     refine sO hS (zM rfl rfl Try.runUnderlying22 Try.sizeOf3 Yt.wk (fun _ => rfl) rfl Yr) rfl fun hS => sO hS (zL rfl Yt.wk (fun _ => rfl) Yr rfl Try.isAgg3) rfl fun hS => zb (v := Value.int .i64) (x0 := (rd Ya Yu)) hS (zG rfl) rfl fun Yp a w hz hS => ?_
     have hM := qA hz hM; clear hz
     refine qz <| wp_seq <| qo <| sM hS rfl fun hS => sB hS rfl fun hS => sM hS rfl fun hS => xj 2 false 18 (b := (decide (Yp < (0 : Int)))) (r := (decide (Yp > (15 : Int)))) hS rfl rfl rfl rfl rfl rfl rfl (fun hb a w hS K hK => ?_) rfl fun a w hS => ?_
     ·refine qX hS rfl rfl rfl hb (mv rfl) rfl fun a w hS => ?_
      refine qX hS rfl rfl rfl hb (xq rfl rfl rfl) rfl fun a w hS => ?_
      exact qK (hK _ _ (hS.up 2 rfl rfl))
     refine qz <| qv hS rfl hM (fun YE hM => ?_) (fun YE hM => ?_)
     ·refine wp_seq ?_
      refine zh <| sO hS (ug (xs := Yb) (g := (ci .i64)) (pre := []) (post := []) 0 rfl Yf rfl (by simp) rfl (zd (g := (ci .i64)) (sz := 1) (fun _ => rfl) Yc) Try.isAgg56 Try.sizeOf56) rfl fun hS => vU (xs := Yb) (ys := Yb) (g := (ci .i64)) (pre := []) (post := []) 0 hS rfl rfl Yf rfl (by simp) rfl (zd (g := (ci .i64)) (sz := 1) (fun _ => rfl) Yc) (zd (g := (ci .i64)) (sz := 1) (fun _ => rfl) Yc) (zA) Try.sizeOf56 fun w YM Ym hS => ?_
      replace Ym : xw YM Yh (Yb.flatMap (ci .i64)) 56 := by simpa using Ym
      refine sA hS rfl fun hS => qz <| wp_ret <| qy (zy (qy (qy (zy (qy ?_)))))
      exact vy (vs := [.agg ⟨Yb.flatMap (ci .i64)⟩, .bool false]) hS rfl (by exact ⟨Xh 0 rfl Ym rfl (zd (g := (ci .i64)) (sz := 1) (fun _ => rfl) Yc) Try.isAgg56 Try.sizeOf56, Xv rfl, trivial⟩) (hret Yb false _ (qQ hM) Yc (hS.st.pick [] (by kernel_rfl)))
     ·refine wp_skip ?_
      refine qh <| zh <| sM hS rfl fun hS => ?_
      obtain ⟨Yj, hM⟩ := qx hM
      refine sO hS (QY rfl rfl Try.runUnderlying56 Try.sizeOf3 Yj) rfl fun hS => sO hS (ZU (xs := Yb) (g := (ci .i64)) (pre := []) (post := []) 0 rfl Yf rfl (by simp) rfl (fun _ => rfl) (xB Yc Yj) rfl Try.isAgg3) rfl fun hS => sB hS rfl fun hS => sO hS (QY rfl rfl Try.runUnderlying56 Try.sizeOf3 Yj) rfl fun hS => Xi (xs := Yb) (g := (ci .i64)) (pre := []) (post := []) 0 ((ql ((rd Yb Yp) + (1 : Int)))) hS rfl rfl Yf rfl (by simp) rfl (fun _ => rfl) (xB Yc Yj) rfl Try.sizeOf3 (zA _) fun Yq w YH hz Yn hS => ?_
      have YF : Yq.length = 16 := by rw [hz, List.length_set]; exact Yc
      have hM := qA hz hM; clear hz
      replace Yn : xw YH Yh (Yq.flatMap (ci .i64)) 56 := by simpa using Yn
      refine qK <| ze (qh ?_)
      refine zh <| sB hS rfl fun hS => sM hS rfl fun hS => qK <| qh ?_
      exact YA _ _ ⟨Yq, YH, (ql (Yu + (1 : Int))), hS.to [0] (by kernel_rfl) ⟨rfl, rfl, rfl, rfl, trivial⟩, YF, Yn, hM⟩
    ·refine wp_exit ?_
     refine qu (qu (qJ (qh ?_)))
     exact YB _ _ ⟨Yb, Yv, hS.to [0] (by kernel_rfl) ⟨rfl, trivial⟩, Yc, Yf, hM⟩
  ·intro a w hI
   obtain ⟨Ye, Yy, hS, Ys, Yz, hM⟩ := hI
   rw [zu.j2] at hM
   refine qo <| sO hS (QY rfl rfl Try.runUnderlying56 Try.sizeOf3 rfl) rfl fun hS => Xi (xs := Ye) (g := (ci .i64)) (pre := []) (post := []) 0 ((0 : Int)) hS rfl rfl Yz rfl (by simp) rfl (fun _ => rfl) (xB Ys rfl) rfl Try.sizeOf3 (zA _) fun Yd w YN hz Yi hS => ?_
   have Yg : Yd.length = 16 := by rw [hz, List.length_set]; exact Ys
   have hM := qA hz hM; clear hz
   replace Yi : xw YN Yh (Yd.flatMap (ci .i64)) 56 := by simpa using Yi
   refine qz <| qo <| sO hS (ug (xs := Yd) (g := (ci .i64)) (pre := []) (post := []) 0 rfl Yi rfl (by simp) rfl (zd (g := (ci .i64)) (sz := 1) (fun _ => rfl) Yg) Try.isAgg56 Try.sizeOf56) rfl fun hS => vU (xs := Yd) (ys := Yd) (g := (ci .i64)) (pre := []) (post := []) 0 hS rfl rfl Yi rfl (by simp) rfl (zd (g := (ci .i64)) (sz := 1) (fun _ => rfl) Yg) (zd (g := (ci .i64)) (sz := 1) (fun _ => rfl) Yg) (zA) Try.sizeOf56 fun w YO Yo hS => ?_
   replace Yo : xw YO Yh (Yd.flatMap (ci .i64)) 56 := by simpa using Yo
   refine sA hS rfl fun hS => qz <| wp_ret ?_
   exact vy (vs := [.agg ⟨Yd.flatMap (ci .i64)⟩, .bool true]) hS rfl (by exact ⟨Xh 0 rfl Yo rfl (zd (g := (ci .i64)) (sz := 1) (fun _ => rfl) Yg) Try.isAgg56 Try.sizeOf56, Xv rfl, trivial⟩) (hret Yd true _ (qQ hM) Yg (hS.st.pick [] (by kernel_rfl)))
theorem x3 {H : zB} {F : List qr} {w : World} {R : Ending → World → Prop} {kr : Int → Prop} {kp : Value → Prop} (hG : Gl H) (K : Nat) (Ya : List Int) (Yn : Option Addr) (Yp : Nat) (Yw : xx H [] F (ci .i64) Yn Ya) (Yu : Ya.length ≤ Yp)
    (hS : St w H [] F) (hm : (zt.m K Ya).wp kr kp)
    (hret : ∀ (Ym : Int) (w : World), kr Ym → St w H [] F → R (.returned (.int .i64 Ym)) w) :
    Calls Try.prog 12 ⟨[.slice Yn Ya.length Yp]⟩ w R := by
 refine enter Try.func12 rfl Try.ntmps12 rfl hS fun a w hS => ?_
 have hM := hm; clear hm
 rw [zt.m] at hM
 refine qo <| sA hS rfl fun hS => qz <| qo <| sM hS rfl fun hS => qT hS rfl Try.call26 (x4 hG K Ya Yn Yp (Yw.app _) Yu (hS.st.part 0 [] (by kernel_rfl)) (qE hM) (fun Ye YC w hM Yh hst => qP hS.ev hst.appF rfl fun hS => ?_))
 replace hS : Ss _ _ _ H [] F _ _ := hS
 refine sM hS rfl fun hS => sO hS (ex rfl rfl) rfl fun hS => sO hS (ex rfl rfl) rfl fun hS => Zk ((List.replicate 16 (0 : Int)).flatMap (ci .i64)) hS Try.zeroValue56 rfl rfl fun w Yo YB Yr hS => vU (xs := (List.replicate 16 (0 : Int))) (ys := Ye) (g := (ci .i64)) (pre := []) (post := []) 0 hS rfl rfl Yr rfl (by simp) rfl (zd (g := (ci .i64)) (sz := 1) (fun _ => rfl) (List.length_replicate ..)) (zd (g := (ci .i64)) (sz := 1) (fun _ => rfl) Yh) (zA) Try.sizeOf56 fun w Yq Yd hS => ?_
 replace Yd : xw Yq Yo (Ye.flatMap (ci .i64)) 56 := by simpa using Yd
 refine sA hS rfl fun hS => qz <| wp_seq <| qo <| sM hS rfl fun hS => sO hS (un rfl rfl) rfl fun hS => qz <| qv hS rfl hM (fun Ys hM => ?_) (fun Ys hM => ?_)
 ·refine wp_seq ?_
  refine zh <| sA hS rfl fun hS => qz <| wp_ret <| qy ?_
  exact qZ (rs := [2]) hS rfl rfl (hret (1 : Int) _ (qQ hM) (hS.st.pick [] (by kernel_rfl)))
 ·refine wp_skip ?_
  refine qh <| qo <| sA hS rfl fun hS => qz <| qR (fun a w => ∃ (Yb : Int), Ss 38 [] [(3, xg Yo 0), (5, .int .i64 Yb)] H [Yq] F a w ∧ (zt.j2 K Ye Yb).wp kr kp) (fun YA Yj => ?_) ?_
  ·refine wp_seq ?_
   refine zh <| sO hS (ug (xs := Ye) (g := (ci .i64)) (pre := []) (post := []) 0 rfl Yd rfl (by simp) rfl (zd (g := (ci .i64)) (sz := 1) (fun _ => rfl) Yh) Try.isAgg56 Try.sizeOf56) rfl fun hS => sM hS rfl fun hS => qz <| zP <| qU (fun Yy a w => ∃ (Yc : Int) (Yg : Int), Ss 38 [] [(3, xg Yo 0), (5, .int .i64 Yc), (15, .agg ⟨Ye.flatMap (ci .i64)⟩), (16, .int .i64 Yg)] H [Yq] F a w ∧ (zt.l1 K Ye Yy Yc Yg).wp kr kp) K ?_ ?_ ?_
   ·exact ⟨(0 : Int), (0 : Int), hS.to [0] (by kernel_rfl) ⟨rfl, rfl, rfl, rfl, trivial⟩, hM⟩
   ·intro a w hI; obtain ⟨_, _, _, hM⟩ := hI; exact qS hM
   ·intro Yy a w hI Yz Yi
    obtain ⟨Yc, Yg, hS, hM⟩ := hI
    rw [zt.l1] at hM
    refine qo <| sB hS rfl fun hS => qz <| wp_seq <| qv hS rfl hM (fun Yt hM => ?_) (fun Yt hM => ?_)
    ·refine wp_skip ?_
     refine qh <| wp_seq <| zP <| qo <| sM hS rfl fun hS => ?_
     obtain ⟨Yv, hM⟩ := qx hM
     refine sO hS (XQ rfl rfl Try.runUnderlying56 Try.isAgg3 Try.sizeOf3 (fun _ => rfl) Yh Yv rfl) rfl fun hS => sA hS rfl fun hS => zb (v := Value.int .i64) (x0 := (rd Ye Yg)) hS (zG rfl) rfl fun Yx a w hz hS => ?_
     have hM := qA hz hM; clear hz
     refine qz <| zh <| sM hS rfl fun hS => sM hS rfl fun hS => sM hS rfl fun hS => ?_
     obtain ⟨Yl, hM⟩ := qx hM
     refine sO hS (shr rfl rfl Yl) rfl fun hS => sB hS rfl fun hS => sB hS rfl fun hS => zb (v := Value.int .i64) (x0 := (ql (Yc + (ql (Yx * (yk .i64 (32768 : Int) Yg)))))) hS (zG rfl) rfl fun Yf a w hz hS => ?_
     have hM := qA hz hM; clear hz
     refine qK <| ze (qh ?_)
     refine zh <| sB hS rfl fun hS => sM hS rfl fun hS => qK <| qh ?_
     exact Yi _ _ ⟨Yf, (ql (Yg + (1 : Int))), hS.to [0] (by kernel_rfl) ⟨rfl, rfl, rfl, rfl, trivial⟩, hM⟩
    ·refine wp_exit ?_
     refine qu (qu (qJ (qh ?_)))
     exact Yj _ _ ⟨Yc, hS.to [0] (by kernel_rfl) ⟨rfl, rfl, trivial⟩, hM⟩
  ·intro a w hI
   obtain ⟨Yb, hS, hM⟩ := hI
   rw [zt.j2] at hM
   refine wp_seq <| qo <| sM hS rfl fun hS => sB hS rfl fun hS => sM hS rfl fun hS => xj 2 false 29 (b := (Yb == (0 : Int))) (r := (Yb == (32768 : Int))) hS rfl rfl rfl rfl rfl rfl rfl (fun hb a w hS K hK => ?_) rfl fun a w hS => ?_
   ·refine qX hS rfl rfl rfl hb (mv rfl) rfl fun a w hS => ?_
    refine qX hS rfl rfl rfl hb (xq rfl rfl rfl) rfl fun a w hS => ?_
    exact qK (hK _ _ (hS.up 2 rfl rfl))
   refine sM hS rfl fun hS => xj 3 false 33 (b := ((Yb == (0 : Int)) || (Yb == (32768 : Int)))) (r := (Ye == ([0, (1 : Int), 0, 0, 0, 0, 0, 0, 0, 0, 0, 0, 0, 0, 0, 0] : List Int))) hS rfl rfl rfl rfl rfl rfl rfl (fun hb a w hS K hK => ?_) rfl fun a w hS => ?_
   ·refine qX hS rfl rfl rfl hb (ug (xs := Ye) (g := (ci .i64)) (pre := []) (post := []) 0 rfl Yd rfl (by simp) rfl (zd (g := (ci .i64)) (sz := 1) (fun _ => rfl) Yh) Try.isAgg56 Try.sizeOf56) rfl fun a w hS => ?_
    refine qX hS rfl rfl rfl hb (ZL (([0, (1 : Int), 0, 0, 0, 0, 0, 0, 0, 0, 0, 0, 0, 0, 0, 0] : List Int).flatMap (ci .i64)) Try.zeroValue56 Try.runUnderlying56 Try.sizeOf3 rfl (by kernel_rfl)) rfl fun a w hS => qX hS rfl rfl rfl hb (ZN rfl rfl Try.runUnderlying56 Try.runUnderlying3 Try.sizeOf3 Try.isAgg3 Yh rfl Try.eqGuardType56 rfl) rfl fun a w hS => ?_
    exact qK (hK _ _ (hS.up 3 rfl rfl))
   refine qz <| qv hS rfl hM (fun Yk hM => ?_) (fun Yk hM => ?_)
   ·refine wp_seq ?_
    refine zh <| sA hS rfl fun hS => qz <| wp_ret <| qy ?_
    exact qZ (rs := [2]) hS rfl rfl (hret (0 : Int) _ (qQ hM) (hS.st.pick [] (by kernel_rfl)))
   ·refine wp_skip ?_
    refine qh <| qo <| sA hS rfl fun hS => qz <| wp_ret ?_
    exact qZ (rs := [2]) hS rfl rfl (hret (3 : Int) _ (qQ hM) (hS.st.pick [] (by kernel_rfl)))
theorem yf {H : zB} {F : List qr} {w : World} {R : Ending → World → Prop} {kr : (List Int) → Prop} {kp : Value → Prop} (hG : Gl H) (K : Nat) (Yd : List Int) (Yz : Yd.length = 16)
    (hS : St w H [] F) (hm : (qO.m K Yd).wp kr kp)
    (hret : ∀ (Ys : (List Int)) (w : World), kr Ys → (Ys.length = 16) → St w H [] F → R (.returned (.agg ⟨Ys.flatMap (ci .i64)⟩)) w) :
    Calls Try.prog 27 ⟨[.agg ⟨Yd.flatMap (ci .i64)⟩]⟩ w R := by
 refine enter Try.func27 rfl Try.ntmps27 rfl hS fun a w hS => ?_
 have hM := hm; clear hm
 rw [qO.m] at hM
 refine qo <| bx (Yd.flatMap (ci .i64)) hS rfl rfl rfl fun w YD YE Yu hS => Zk ((List.replicate 16 (0 : Int)).flatMap (ci .i64)) hS Try.zeroValue56 rfl rfl fun w Yh YF Yv hS => qz <| qo <| sA hS rfl fun hS => qz <| qR (fun a w => ∃ (Ya : (List Int)) (Yr : qr), Ss 20 [] [(2, xg Yh 0)] H [Yr] F a w ∧ (Ya.length = 16) ∧ (xw Yr Yh (Ya.flatMap (ci .i64)) 56) ∧ (qO.j2 K Ya).wp kr kp) (fun YI Yx => ?_) ?_
 ·refine wp_seq ?_
  refine zh <| sA hS rfl fun hS => qz <| zP <| qU (fun YB a w => ∃ (Yb : (List Int)) (Ym : qr) (Yc : Int) (Yf : Int), Ss 20 [] [(1, xg YD 0), (2, xg Yh 0), (3, .int .i64 Yc), (4, .int .i64 Yf)] H [YE, Ym] F a w ∧ (Yb.length = 16) ∧ (xw Ym Yh (Yb.flatMap (ci .i64)) 56) ∧ (qO.l1 K Yd YB Yb Yc Yf).wp kr kp) K ?_ ?_ ?_
  ·exact ⟨(List.replicate 16 (0 : Int)), YF, (0 : Int), (1 : Int), hS.to [1, 0] (by kernel_rfl) ⟨rfl, rfl, rfl, rfl, trivial⟩, (List.length_replicate ..), Yv, hM⟩
  ·intro a w hI; obtain ⟨_, _, _, _, _, _, _, hM⟩ := hI; exact qS hM
  ·intro YB a w hI YH Yw
   obtain ⟨Yb, Ym, Yc, Yf, hS, Yk, Yn, hM⟩ := hI
   rw [qO.l1] at hM
   refine wp_seq <| qo <| sM hS rfl fun hS => sB hS rfl fun hS => qz <| qv hS rfl hM (fun Yy hM => ?_) (fun Yy hM => ?_)
   ·refine wp_skip ?_
    refine qh <| wp_seq <| zP <| qo <| sM hS rfl fun hS => sM hS rfl fun hS => sB hS rfl fun hS => ?_
    obtain ⟨Yp, hM⟩ := qx hM
    refine sO hS (QY rfl rfl Try.runUnderlying56 Try.sizeOf3 Yp) rfl fun hS => sO hS (ZU (xs := Yd) (g := (ci .i64)) (pre := []) (post := []) 0 rfl Yu rfl (by simp) rfl (fun _ => rfl) (xB Yz Yp) rfl Try.isAgg3) rfl fun hS => sB hS rfl fun hS => sO hS (shl rfl rfl rfl) rfl fun hS => zb (v := Value.int .i64) (x0 := (xn .i64 (ql (Yc + (rd Yd (ql (Yf - (1 : Int)))))) (1 : Int))) hS (zG rfl) rfl fun Yg a w hz hS => ?_
    have hM := qA hz hM; clear hz
    refine qz <| zh <| sM hS rfl fun hS => sM hS rfl fun hS => ?_
    obtain ⟨Yq, hM⟩ := qx hM
    refine sO hS (QY rfl rfl Try.runUnderlying56 Try.sizeOf3 Yq) rfl fun hS => Xi (xs := Yb) (g := (ci .i64)) (pre := []) (post := []) 1 (Yg) hS rfl rfl Yn rfl (by simp) rfl (fun _ => rfl) (xB Yk Yq) rfl Try.sizeOf3 (zA _) fun Yl w Yt hz Yi hS => ?_
    have YA : Yl.length = 16 := by rw [hz, List.length_set]; exact Yk
    have hM := qA hz hM; clear hz
    replace Yi : xw Yt Yh (Yl.flatMap (ci .i64)) 56 := by simpa using Yi
    refine qK <| ze (qh ?_)
    refine zh <| sM hS rfl fun hS => sB hS rfl fun hS => zb (v := Value.int .i64) (x0 := (ql (Yf + (1 : Int)))) hS (zG rfl) rfl fun YC a w hz hS => ?_
    have hM := qA hz hM; clear hz
    refine qK <| qh ?_
    exact Yw _ _ ⟨Yl, Yt, Yg, YC, hS.to [0, 1] (by kernel_rfl) ⟨rfl, rfl, rfl, rfl, trivial⟩, YA, Yi, hM⟩
   ·refine wp_exit ?_
    refine qu (qu (qJ (qh ?_)))
    exact Yx _ _ ⟨Yb, Ym, hS.to [1] (by kernel_rfl) ⟨rfl, trivial⟩, Yk, Yn, hM⟩
 ·intro a w hI
  obtain ⟨Ya, Yr, hS, Ye, Yo, hM⟩ := hI
  rw [qO.j2] at hM
  refine qo <| sO hS (ug (xs := Ya) (g := (ci .i64)) (pre := []) (post := []) 0 rfl Yo rfl (by simp) rfl (zd (g := (ci .i64)) (sz := 1) (fun _ => rfl) Ye) Try.isAgg56 Try.sizeOf56) rfl fun hS => vU (xs := Ya) (ys := Ya) (g := (ci .i64)) (pre := []) (post := []) 0 hS rfl rfl Yo rfl (by simp) rfl (zd (g := (ci .i64)) (sz := 1) (fun _ => rfl) Ye) (zd (g := (ci .i64)) (sz := 1) (fun _ => rfl) Ye) (zA) Try.sizeOf56 fun w YG Yj hS => ?_
  replace Yj : xw YG Yh (Ya.flatMap (ci .i64)) 56 := by simpa using Yj
  refine qz <| wp_ret ?_
  exact vy (vs := [.agg ⟨Ya.flatMap (ci .i64)⟩]) hS rfl (by exact ⟨Xh 0 rfl Yj rfl (zd (g := (ci .i64)) (sz := 1) (fun _ => rfl) Ye) Try.isAgg56 Try.sizeOf56, trivial⟩) (hret Ya _ (qQ hM) Ye (hS.st.pick [] (by kernel_rfl)))
theorem vp {H : zB} {F : List qr} {w : World} {R : Ending → World → Prop} {kr : ((List Int) × Int) → Prop} {kp : Value → Prop} (hG : Gl H) (K : Nat) (Ya : List Int) (YC : Option Addr) (YE : Nat) (Yt : xx H [] F (ci .i64) YC Ya) (YT : Ya.length ≤ YE)
    (hS : St w H [] F) (hm : (zQ.m K Ya).wp kr kp)
    (hret : ∀ (YD : Option Addr) (YF : Nat) (YB : (List Int)) (YJ : qr) (YX : Int) (w : World), kr (YB, YX) → (zJ 3 (ci .i64) 1 YD YB YF YJ) → St w H [YJ] F → R (.returned (.tuple ⟨[.slice YD YB.length YF, .int .i64 YX]⟩)) w) :
    Calls Try.prog 9 ⟨[.slice YC Ya.length YE]⟩ w R := by
 refine enter Try.func9 rfl Try.ntmps9 rfl hS fun a w hS => ?_
 have hM := hm; clear hm
 rw [zQ.m] at hM
 refine qo <| sA hS rfl fun hS => ?_
 obtain ⟨Y3, Ja, hS⟩ := hS.nilV 3 (ci .i64) 1
 refine sA hS rfl fun hS => qz <| wp_seq <| qo <| sM hS rfl fun hS => qT hS rfl Try.call12 (x3 hG K Ya YC YE (Yt.app _) YT (hS.st.part 0 [0] (by kernel_rfl)) (qE hM) (fun Y6 w hM  hst => qP hS.ev hst.appF rfl fun hS => ?_))
 replace hS : Ss _ _ _ H [Y3] F _ _ := hS
 refine sA hS rfl fun hS => qz <| qo <| sM hS rfl fun hS => sB hS rfl fun hS => qz <| qv hS rfl hM (fun YQ hM => ?_) (fun YQ hM => ?_)
 ·refine wp_seq ?_
  refine zh <| sM hS rfl fun hS => sA hS rfl fun hS => ?_
  obtain ⟨Y0, YN, hS⟩ := hS.nilV 3 (ci .i64) 1
  refine sA hS rfl fun hS => qz <| wp_ret <| qy ?_
  exact qZ (rs := [2, 3]) hS rfl rfl (hret none (0) ([] : List Int) Y0 Y6 _ (qQ hM) YN (hS.st.pick [0] (by kernel_rfl)))
 ·refine wp_skip ?_
  refine qh <| qo <| sM hS rfl fun hS => qT hS rfl Try.call26 (x4 hG K Ya YC YE (Yt.app _) YT (hS.st.part 0 [0] (by kernel_rfl)) (qE hM) (fun Yu Jb w hM Yz hst => qP hS.ev hst.appF rfl fun hS => ?_))
  replace hS : Ss _ _ _ H [Y3] F _ _ := hS
  refine sM hS rfl fun hS => sO hS (ex rfl rfl) rfl fun hS => sO hS (ex rfl rfl) rfl fun hS => Zk ((List.replicate 16 (0 : Int)).flatMap (ci .i64)) hS Try.zeroValue56 rfl rfl fun w YZ Y8 YL hS => vU (xs := (List.replicate 16 (0 : Int))) (ys := Yu) (g := (ci .i64)) (pre := []) (post := []) 0 hS rfl rfl YL rfl (by simp) rfl (zd (g := (ci .i64)) (sz := 1) (fun _ => rfl) (List.length_replicate ..)) (zd (g := (ci .i64)) (sz := 1) (fun _ => rfl) Yz) (zA) Try.sizeOf56 fun w YG Yl hS => ?_
  replace Yl : xw YG YZ (Yu.flatMap (ci .i64)) 56 := by simpa using Yl
  refine sA hS rfl fun hS => qz <| qo <| sO hS (ug (xs := Yu) (g := (ci .i64)) (pre := []) (post := []) 0 rfl Yl rfl (by simp) rfl (zd (g := (ci .i64)) (sz := 1) (fun _ => rfl) Yz) Try.isAgg56 Try.sizeOf56) rfl fun hS => qT hS rfl Try.call27 (yf hG K Yu Yz (hS.st.part 0 [0, 1] (by kernel_rfl)) (qE hM) (fun YA w hM YK hst => qP hS.ev hst.appF rfl fun hS => ?_))
  replace hS : Ss _ _ _ H [YG, Y3] F _ _ := hS
  refine Zk ((List.replicate 16 (0 : Int)).flatMap (ci .i64)) hS Try.zeroValue56 rfl rfl fun w Yr Y9 YM hS => vU (xs := (List.replicate 16 (0 : Int))) (ys := YA) (g := (ci .i64)) (pre := []) (post := []) 0 hS rfl rfl YM rfl (by simp) rfl (zd (g := (ci .i64)) (sz := 1) (fun _ => rfl) (List.length_replicate ..)) (zd (g := (ci .i64)) (sz := 1) (fun _ => rfl) YK) (zA) Try.sizeOf56 fun w YH Ym hS => ?_
  replace Ym : xw YH Yr (YA.flatMap (ci .i64)) 56 := by simpa using Ym
  refine qz <| qo <| sM hS rfl fun hS => sO hS (zC rfl Try.runUnderlying22) rfl fun hS => ?_
  obtain ⟨YU, hM⟩ := qx hM
  refine Xf (g := (ci .i64)) (m := (Ya.length : Int)) (0 : Int) hS rfl rfl (by simp) Try.runUnderlying22 X.el3 (fun w => ⟨_, Try.zeroValue3 w, rfl⟩) (fun _ => rfl) rfl rfl YU rfl fun YY w Yf Yg Y4 hz YO hS => ?_
  have hM := qA hz hM; clear hz
  refine sA hS rfl fun hS => qz <| wp_seq <| qo <| sM hS rfl fun hS => sO hS (zC rfl Try.runUnderlying22) rfl fun hS => sM hS rfl fun hS => qz <| zP <| qU (fun YW a w => ∃ (Yb : (List Int)) (Ys : qr) (Yc : (List Int)) (Yk : qr) (Yh : Int), Ss 48 [] [(7, xg Yr 0), (8, .slice Yf Yc.length Yg), (26, .slice YC Ya.length YE), (27, .int .i64 (Ya.length : Int)), (28, .int .i64 Yh)] H [Ys, Yk] F a w ∧ (Yb.length = 16) ∧ (xw Ys Yr (Yb.flatMap (ci .i64)) 56) ∧ (zJ 3 (ci .i64) 1 Yf Yc Yg Yk) ∧ (zQ.l1 K Ya YW Yb Yc Yh).wp kr kp) K ?_ ?_ ?_
  ·exact ⟨YA, YH, YY, Y4, (0 : Int), hS.to [1, 0] (by kernel_rfl) ⟨rfl, rfl, rfl, rfl, rfl, trivial⟩, YK, Ym, YO, hM⟩
  ·intro a w hI; obtain ⟨_, _, _, _, _, _, _, _, _, hM⟩ := hI; exact qS hM
  ·intro YW a w hI Y7 Yv
   obtain ⟨Yb, Ys, Yc, Yk, Yh, hS, Ye, Yi, Yj, hM⟩ := hI
   rw [zQ.l1] at hM
   refine qo <| sB hS rfl fun hS => qz <| wp_seq <| qv hS rfl hM (fun YR hM => ?_) (fun YR hM => ?_)
   ·refine wp_skip ?_
    refine qh <| wp_seq <| zP <| qo <| sM hS rfl fun hS => ?_
    obtain ⟨Yw, hM⟩ := qx hM
    refine sO hS (zM rfl rfl Try.runUnderlying22 Try.sizeOf3 Yt.wk (fun _ => rfl) rfl Yw) rfl fun hS => sO hS (zL rfl Yt.wk (fun _ => rfl) Yw rfl Try.isAgg3) rfl fun hS => sA hS rfl fun hS => zb (v := Value.int .i64) (x0 := (rd Ya Yh)) hS (zG rfl) rfl fun Yo a w hz hS => ?_
    have hM := qA hz hM; clear hz
    refine qz <| qo <| sM hS rfl fun hS => sB hS rfl fun hS => qz <| qv hS rfl hM (fun YS hM => ?_) (fun YS hM => ?_)
    ·refine wp_seq ?_
     refine zh <| sM hS rfl fun hS => sM hS rfl fun hS => sM hS rfl fun hS => ?_
     obtain ⟨Yd, hM⟩ := qx hM
     refine sO hS (QY rfl rfl Try.runUnderlying56 Try.sizeOf3 Yd) rfl fun hS => sO hS (ZU (xs := Yb) (g := (ci .i64)) (pre := []) (post := []) 0 rfl Yi rfl (by simp) rfl (fun _ => rfl) (xB Ye Yd) rfl Try.isAgg3) rfl fun hS => ?_
     obtain ⟨Yx, hM⟩ := qx hM
     refine sO hS (zM rfl rfl Try.runUnderlying22 Try.sizeOf3 (Yj.rd (i := 1) rfl) (fun _ => rfl) rfl Yx) rfl fun hS => Zz (i := Yh) (sz := 1) 1 0 ((rd Yb Yo)) hS rfl rfl Yj rfl Try.sizeOf3 (zA (rd Yb Yo)) (fun _ => rfl) Yx rfl rfl fun Yp w Y5 hz Yy YP hS => ?_
     have hM := qA hz hM; clear hz
     replace hS := hS.re 8 (u := .slice Yf Yc.length Yg) (v := .slice Yf Yp.length Yg) rfl (by rw [Yy])
     replace hS := hS.re 35 (u := .slice Yf Yc.length Yg) (v := .slice Yf Yp.length Yg) rfl (by rw [Yy])
     refine qz <| zh <| sM hS rfl fun hS => sO hS (QY rfl rfl Try.runUnderlying56 Try.sizeOf3 Yd) rfl fun hS => sO hS (ZU (xs := Yb) (g := (ci .i64)) (pre := []) (post := []) 0 rfl Yi rfl (by simp) rfl (fun _ => rfl) (xB Ye Yd) rfl Try.isAgg3) rfl fun hS => sB hS rfl fun hS => sO hS (QY rfl rfl Try.runUnderlying56 Try.sizeOf3 Yd) rfl fun hS => Xi (xs := Yb) (g := (ci .i64)) (pre := []) (post := []) 0 ((ql ((rd Yb Yo) + (1 : Int)))) hS rfl rfl Yi rfl (by simp) rfl (fun _ => rfl) (xB Ye Yd) rfl Try.sizeOf3 (zA _) fun Yq w YI hz Yn hS => ?_
     have YV : Yq.length = 16 := by rw [hz, List.length_set]; exact Ye
     have hM := qA hz hM; clear hz
     replace Yn : xw YI Yr (Yq.flatMap (ci .i64)) 56 := by simpa using Yn
     refine qK <| ze (qh ?_)
     refine zh <| sB hS rfl fun hS => sM hS rfl fun hS => qK <| qh ?_
     exact Yv _ _ ⟨Yq, YI, Yp, Y5, (ql (Yh + (1 : Int))), hS.to [0, 1] (by kernel_rfl) ⟨rfl, rfl, rfl, rfl, rfl, trivial⟩, YV, Yn, YP, hM⟩
    ·refine wp_skip ?_
     refine ze (qh ?_)
     refine zh <| sB hS rfl fun hS => sM hS rfl fun hS => qK <| qh ?_
     exact Yv _ _ ⟨Yb, Ys, Yc, Yk, (ql (Yh + (1 : Int))), hS.to [0, 1] (by kernel_rfl) ⟨rfl, rfl, rfl, rfl, rfl, trivial⟩, Ye, Yi, Yj, hM⟩
   ·refine wp_exit ?_
    refine qu (qu (qJ (qh ?_)))
    refine qo <| sM hS rfl fun hS => sA hS rfl fun hS => sA hS rfl fun hS => qz <| wp_ret ?_
    exact qZ (rs := [2, 3]) hS rfl rfl (hret Yf Yg Yc Yk (0 : Int) _ (qQ hM) Yj (hS.st.pick [1] (by kernel_rfl)))
def zg.Own (Yf : Nat) (Ya : zg) (Yg : qr) : Prop :=
  ∃ (Yd : qr) (Yb : Option Addr) (Yc : Nat) (Ye : qr), Yg = Yd ++ Ye ∧ xw Yd Yf ((Ya.counts_.flatMap (ci .i64)) ++ [.slice Yb Ya.symbols_.length Yc]) 61 ∧ Ya.counts_.length = 16 ∧ zJ 3 (ci .i64) 1 Yb Ya.symbols_ Yc Ye
theorem ua {H : zB} {F : List qr} {w : World} {R : Ending → World → Prop} {kr : ((Option zg) × Int) → Prop} {kp : Value → Prop} (hG : Gl H) (K : Nat) (Ya : List Int) (Yf : Option Addr) (Yg : Nat) (Yj : xx H [] F (ci .i64) Yf Ya) (Yz : Ya.length ≤ Yg)
    (hS : St w H [] F) (hm : (zx.m K Ya).wp kr kp)
    (hret : ∀ (YC : Option Addr) (YT : Option zg) (YF : qr) (YU : Int) (w : World), kr (YT, YU) → (Za zg.Own YC YT YF) → St w H [YF] F → R (.returned (.tuple ⟨[.pointer YC, .int .i64 YU]⟩)) w) :
    Calls Try.prog 15 ⟨[.slice Yf Ya.length Yg]⟩ w R := by
 refine enter Try.func15 rfl Try.ntmps15 rfl hS fun a w hS => ?_
 have hM := hm; clear hm
 rw [zx.m] at hM
 refine qo <| sA hS rfl fun hS => sA hS rfl fun hS => qz <| wp_seq <| qo <| sM hS rfl fun hS => qT hS rfl Try.call12 (x3 hG K Ya Yf Yg (Yj.app _) Yz (hS.st.part 0 [] (by kernel_rfl)) (qE hM) (fun Y3 w hM  hst => qP hS.ev hst.appF rfl fun hS => ?_))
 replace hS : Ss _ _ _ H [] F _ _ := hS
 refine sA hS rfl fun hS => qz <| qo <| sM hS rfl fun hS => sB hS rfl fun hS => qz <| qv hS rfl hM (fun YM hM => ?_) (fun YM hM => ?_)
 ·refine wp_seq ?_
  refine zh <| sM hS rfl fun hS => sA hS rfl fun hS => sA hS rfl fun hS => qz <| wp_ret <| qy ?_
  replace hS := hS.nilF
  exact qZ (rs := [2, 3]) hS rfl rfl (hret none none ([] : qr) Y3 _ (qQ hM) (.inl ⟨rfl, rfl, rfl⟩) (hS.st.pick [0] (by kernel_rfl)))
 ·refine wp_skip ?_
  refine qh <| qo <| sO hS (Xa (((List.replicate 16 (0 : Int)).flatMap (ci .i64)) ++ [.slice none 0 0]) [(0, 16), (16, 1)] Try.zeroValue61 Try.runUnderlying61 (by intro w; simp [Try.sizeOf22, Try.sizeOf56]) rfl rfl) rfl fun hS => bx (((List.replicate 16 (0 : Int)).flatMap (ci .i64)) ++ [.slice none 0 0]) hS rfl rfl rfl fun w Yk YY YG hS => ?_
  obtain ⟨YD, YJ, hS⟩ := hS.nilV 3 (ci .i64) 1
  refine sA hS rfl fun hS => qz <| qo <| sM hS rfl fun hS => sM hS rfl fun hS => qT hS rfl Try.call26 (x4 hG K Ya Yf Yg (Yj.app _) Yz (hS.st.part 0 [0, 1] (by kernel_rfl)) (qE hM) (fun Yh Ja w hM Yv hst => qP hS.ev hst.appF rfl fun hS => ?_))
  replace hS : Ss _ _ _ H [YD, YY] F _ _ := hS
  refine sM hS rfl fun hS => sO hS (ex rfl rfl) rfl fun hS => sO hS (ex rfl rfl) rfl fun hS => sO hS (vB rfl) rfl fun hS => sO hS (yZ rfl Try.runUnderlying61 rfl Try.sizeOf56 rfl) rfl fun hS => vU (xs := (List.replicate 16 (0 : Int))) (ys := Yh) (g := (ci .i64)) (pre := []) (post := [.slice none ([] : List Int).length (0)]) 1 hS rfl rfl YG rfl (by simp) rfl (zd (g := (ci .i64)) (sz := 1) (fun _ => rfl) (List.length_replicate ..)) (zd (g := (ci .i64)) (sz := 1) (fun _ => rfl) Yv) (zA) Try.sizeOf56 fun w YE Yt hS => ?_
  replace Yt : xw YE Yk ((Yh.flatMap (ci .i64)) ++ [.slice none ([] : List Int).length (0)]) 61 := by simpa using Yt
  refine qz <| wp_seq <| qo <| sA hS rfl fun hS => qz <| zP <| qU (fun YB a w => ∃ (Yn : Option Addr) (Yp : Nat) (Yb : (List Int)) (Yl : qr) (Ym : qr) (Yd : Int), Ss 50 [] [(0, .slice Yf Ya.length Yg), (5, xg Yk 0), (6, .int .i64 Yd)] H [Ym, Yl] F a w ∧ (zJ 3 (ci .i64) 1 Yn Yb Yp Yl) ∧ (xw Ym Yk ((Yh.flatMap (ci .i64)) ++ [.slice Yn Yb.length Yp]) 61) ∧ (zx.l1 K Ya Yh YB Yb Yd).wp kr kp) K ?_ ?_ ?_
  ·exact ⟨none, 0, ([] : List Int), YD, YE, (1 : Int), hS.to [1, 0] (by kernel_rfl) ⟨rfl, rfl, rfl, trivial⟩, YJ, Yt, hM⟩
  ·intro a w hI; obtain ⟨_, _, _, _, _, _, _, _, _, hM⟩ := hI; exact qS hM
  ·intro YB a w hI Y7 YI
   obtain ⟨Yn, Yp, Yb, Yl, Ym, Yd, hS, Yy, Yw, hM⟩ := hI
   rw [zx.l1] at hM
   refine wp_seq <| qo <| sM hS rfl fun hS => sB hS rfl fun hS => qz <| qv hS rfl hM (fun YN hM => ?_) (fun YN hM => ?_)
   ·refine wp_skip ?_
    refine qh <| wp_seq <| zP <| qo <| sM hS rfl fun hS => sO hS (zC rfl Try.runUnderlying22) rfl fun hS => sM hS rfl fun hS => qz <| zP <| qU (fun YR a w => ∃ (Yo : Option Addr) (Yq : Nat) (Yc : (List Int)) (Yr : qr) (Ys : qr) (Ye : Int), Ss 50 [] [(0, .slice Yf Ya.length Yg), (5, xg Yk 0), (6, .int .i64 Yd), (28, .slice Yf Ya.length Yg), (29, .int .i64 (Ya.length : Int)), (30, .int .i64 Ye)] H [Ys, Yr] F a w ∧ (zJ 3 (ci .i64) 1 Yo Yc Yq Yr) ∧ (xw Ys Yk ((Yh.flatMap (ci .i64)) ++ [.slice Yo Yc.length Yq]) 61) ∧ (zx.l2 K (zx.l1 K Ya Yh YB) Ya Yd YR Yc Ye).wp kr kp) K ?_ ?_ ?_
    ·exact ⟨Yn, Yp, Yb, Yl, Ym, (0 : Int), hS.to [0, 1] (by kernel_rfl) ⟨rfl, rfl, rfl, rfl, rfl, rfl, trivial⟩, Yy, Yw, hM⟩
    ·intro a w hI; obtain ⟨_, _, _, _, _, _, _, _, _, hM⟩ := hI; exact qS hM
    ·intro YR a w hI Y6 Yx
     obtain ⟨Yo, Yq, Yc, Yr, Ys, Ye, hS, Yu, Yi, hM⟩ := hI
     rw [zx.l2] at hM
     refine qo <| sB hS rfl fun hS => qz <| wp_seq <| qv hS rfl hM (fun YO hM => ?_) (fun YO hM => ?_)
     ·refine wp_skip ?_
      refine qh <| wp_seq <| zP <| qo <| sM hS rfl fun hS => ?_
      obtain ⟨YA, hM⟩ := qx hM
      refine sO hS (zM rfl rfl Try.runUnderlying22 Try.sizeOf3 Yj.wk (fun _ => rfl) rfl YA) rfl fun hS => sO hS (zL rfl Yj.wk (fun _ => rfl) YA rfl Try.isAgg3) rfl fun hS => sA hS rfl fun hS => zb (v := Value.int .i64) (x0 := (rd Ya Ye)) hS (zG rfl) rfl fun Y4 a w hz hS => ?_
      have hM := qA hz hM; clear hz
      refine qz <| qo <| sM hS rfl fun hS => sM hS rfl fun hS => sB hS rfl fun hS => qz <| qv hS rfl hM (fun YP hM => ?_) (fun YP hM => ?_)
      ·refine zh ?_
       refine sM hS rfl fun hS => sM hS rfl fun hS => sO hS (vB rfl) rfl fun hS => sO hS (yZ rfl Try.runUnderlying61 rfl Try.sizeOf22 rfl) rfl fun hS => sO hS (Xp 0 rfl Yi rfl (by rfl) (zd (g := (ci .i64)) (sz := 1) (fun _ => rfl) Yv) Try.isAgg22) rfl fun hS => sM hS rfl fun hS => Qc (g := (ci .i64)) ([Ye] : List Int) [.int .i64 Ye] hS Try.runUnderlying22 Try.sizeOf3 X.el3 rfl rfl rfl (by simp [Value.cells]) rfl rfl rfl rfl rfl fun w Y5 Y8 Y9 YK hS => ?_
       obtain ⟨YQ, hM⟩ := qx hM
       refine ZE (ys := ([Ye] : List Int)) 2 hS rfl rfl Yu rfl (YK.rd (i := 0) rfl) Try.runUnderlying22 Try.runUnderlying22 X.el3 (fun _ => rfl) rfl zA YQ rfl fun YV w YW YX YZ hz YL hS => ?_
       have hM := qA hz hM; clear hz
       refine sO hS (vB rfl) rfl fun hS => sO hS (yZ rfl Try.runUnderlying61 rfl Try.sizeOf22 rfl) rfl fun hS => XY 1 hS rfl rfl Yi rfl rfl (zd (g := (ci .i64)) (sz := 1) (fun _ => rfl) Yv) rfl Try.sizeOf22 fun w Y0 YH hS => qK <| ze (qh ?_)
       refine zh <| sB hS rfl fun hS => sM hS rfl fun hS => qK <| qh ?_
       exact Yx _ _ ⟨YW, YX, YV, YZ, Y0, (ql (Ye + (1 : Int))), hS.to [1, 2] (by kernel_rfl) ⟨rfl, rfl, rfl, rfl, rfl, rfl, trivial⟩, YL, YH, hM⟩
      ·refine wp_skip ?_
       refine ze (qh ?_)
       refine zh <| sB hS rfl fun hS => sM hS rfl fun hS => qK <| qh ?_
       exact Yx _ _ ⟨Yo, Yq, Yc, Yr, Ys, (ql (Ye + (1 : Int))), hS.to [0, 1] (by kernel_rfl) ⟨rfl, rfl, rfl, rfl, rfl, rfl, trivial⟩, Yu, Yi, hM⟩
     ·refine wp_exit ?_
      refine qu (qu (qJ (ze (qh ?_))))
      refine zh <| sM hS rfl fun hS => sB hS rfl fun hS => zb (v := Value.int .i64) (x0 := (ql (Yd + (1 : Int)))) hS (zG rfl) rfl fun YS a w hz hS => ?_
      have hM := qA hz hM; clear hz
      refine qK <| qh ?_
      exact YI _ _ ⟨Yo, Yq, Yc, Yr, Ys, YS, hS.to [0, 1] (by kernel_rfl) ⟨rfl, rfl, rfl, trivial⟩, Yu, Yi, hM⟩
   ·refine wp_exit ?_
    refine qu (qu (qJ (qh ?_)))
    refine qo <| sM hS rfl fun hS => sA hS rfl fun hS => sA hS rfl fun hS => qz <| wp_ret ?_
    replace hS := hS.front [0, 1] (by kernel_rfl)
    replace hS := hS.joinF
    exact qZ (rs := [2, 3]) hS rfl rfl (hret (some ⟨Yk, 0, none⟩) (some (zg.mk Yh Yb)) (Ym ++ Yl) (0 : Int) _ (qQ hM) (.inr ⟨_, _, rfl, rfl, Ym, Yn, Yp, Yl, rfl, Yw, Yv, Yy⟩) (hS.st.pick [0] (by kernel_rfl)))
theorem y4 {H : zB} {F : List qr} {w : World} {R : Ending → World → Prop} {kr : Bool → Prop} {kp : Value → Prop} (hG : Gl H) (K : Nat) (Ya : Int)
    (hS : St w H [] F) (hm : (xb.m K Ya).wp kr kp)
    (hret : ∀ (Yb : Bool) (w : World), kr Yb → St w H [] F → R (.returned (.bool Yb)) w) :
    Calls Try.prog 31 ⟨[.int .i64 Ya]⟩ w R := by
 refine enter Try.func31 rfl Try.ntmps31 rfl hS fun a w hS => ?_
 have hM := hm; clear hm
 rw [xb.m] at hM
 refine qo <| sA hS rfl fun hS => qz <| qo <| sM hS rfl fun hS => sB hS rfl fun hS => sM hS rfl fun hS => xj 2 false 5 (b := (decide (Ya < (0 : Int)))) (r := (decide (Ya > (1099511627776 : Int)))) hS rfl rfl rfl rfl rfl rfl rfl (fun hb a w hS K hK => ?_) rfl fun a w hS => ?_
 ·refine qX hS rfl rfl rfl hb (mv rfl) rfl fun a w hS => ?_
  refine qX hS rfl rfl rfl hb (xq rfl rfl rfl) rfl fun a w hS => ?_
  exact qK (hK _ _ (hS.up 2 rfl rfl))
 refine zb (v := Value.bool) (x0 := ((decide (Ya < (0 : Int))) || (decide (Ya > (1099511627776 : Int))))) hS (zG rfl) rfl fun Yc a w hz hS => ?_
 have hM := qA hz hM; clear hz
 refine qz <| wp_ret ?_
 exact qZ (rs := [2]) hS rfl rfl (hret Yc _ (qQ hM) (hS.st.pick [] (by kernel_rfl)))
theorem z5 {H : zB} {F : List qr} {w : World} {R : Ending → World → Prop} {kr : Int → Prop} {kp : Value → Prop} (hG : Gl H) (K : Nat) (Ya : List Int) (Ye : Option Addr) (Yf : Nat) (Yd : xx H [] F (ci .i64) Ye Ya) (Yl : Ya.length ≤ Yf)
    (hS : St w H [] F) (hm : (qB.m K Ya).wp kr kp)
    (hret : ∀ (Yk : Int) (w : World), kr Yk → St w H [] F → R (.returned (.int .i64 Yk)) w) :
    Calls Try.prog 37 ⟨[.slice Ye Ya.length Yf, xE 31 [] []]⟩ w R := by
 refine enter Try.func37 rfl Try.ntmps37 rfl hS fun a w hS => ?_
 have hM := hm; clear hm
 rw [qB.m] at hM
 refine qo <| sA hS rfl fun hS => qz <| wp_seq <| qo <| sM hS rfl fun hS => sO hS (zC rfl Try.runUnderlying22) rfl fun hS => sM hS rfl fun hS => qz <| zP <| qU (fun Yj a w => ∃ (Yb : Int), Ss 19 [] [(0, .slice Ye Ya.length Yf), (1, xE 31 [] []), (7, .int .i64 (Ya.length : Int)), (8, .int .i64 Yb)] H [] F a w ∧ (qB.l1 K Ya Yj Yb).wp kr kp) K ?_ ?_ ?_
 ·exact ⟨(0 : Int), hS.to [] (by kernel_rfl) ⟨rfl, rfl, rfl, rfl, trivial⟩, hM⟩
 ·intro a w hI; obtain ⟨_, _, hM⟩ := hI; exact qS hM
 ·intro Yj a w hI Ym Yg
  obtain ⟨Yb, hS, hM⟩ := hI
  rw [qB.l1] at hM
  refine qo <| sB hS rfl fun hS => qz <| wp_seq <| qv hS rfl hM (fun Yh hM => ?_) (fun Yh hM => ?_)
  ·refine wp_skip ?_
   refine qh <| wp_seq <| zP <| qo <| sM hS rfl fun hS => sA hS rfl fun hS => qz <| qo <| sM hS rfl fun hS => sM hS rfl fun hS => sM hS rfl fun hS => ?_
   obtain ⟨Yc, hM⟩ := qx hM
   refine sO hS (zM rfl rfl Try.runUnderlying22 Try.sizeOf3 Yd.wk (fun _ => rfl) rfl Yc) rfl fun hS => sO hS (zL rfl Yd.wk (fun _ => rfl) Yc rfl Try.isAgg3) rfl fun hS => yU hS rfl rfl Try.call31 (y4 hG K (rd Ya Yb) (hS.st.part 0 [] (by kernel_rfl)) (qE hM) (fun Yn w hM  hst => qP hS.ev hst.appF rfl fun hS => ?_))
   replace hS : Ss _ _ _ H [] F _ _ := hS
   refine qz <| qv hS rfl hM (fun Yi hM => ?_) (fun Yi hM => ?_)
   ·refine wp_seq ?_
    refine zh <| sM hS rfl fun hS => sA hS rfl fun hS => qz <| wp_ret <| zy (qy (qy (zy (qy ?_))))
    exact qZ (rs := [4]) hS rfl rfl (hret Yb _ (qQ hM) (hS.st.pick [] (by kernel_rfl)))
   ·refine wp_skip ?_
    refine ze (qh ?_)
    refine zh <| sB hS rfl fun hS => sM hS rfl fun hS => qK <| qh ?_
    exact Yg _ _ ⟨(ql (Yb + (1 : Int))), hS.to [] (by kernel_rfl) ⟨rfl, rfl, rfl, rfl, trivial⟩, hM⟩
  ·refine wp_exit ?_
   refine qu (qu (qJ (qh ?_)))
   refine qo <| sA hS rfl fun hS => qz <| wp_ret ?_
   exact qZ (rs := [4]) hS rfl rfl (hret (-1 : Int) _ (qQ hM) (hS.st.pick [] (by kernel_rfl)))
theorem zX {H : zB} {F : List qr} {w : World} {R : Ending → World → Prop} {kr : Bool → Prop} {kp : Value → Prop} (hG : Gl H) (K : Nat) (Ya : List Int) (Yb : Option Addr) (Yc : Nat) (Ye : xx H [] F (ci .i64) Yb Ya) (Yd : Ya.length ≤ Yc)
    (hS : St w H [] F) (hm : (qV.m K Ya).wp kr kp)
    (hret : ∀ (Yf : Bool) (w : World), kr Yf → St w H [] F → R (.returned (.bool Yf)) w) :
    Calls Try.prog 30 ⟨[.slice Yb Ya.length Yc, xE 31 [] []]⟩ w R := by
 refine enter Try.func30 rfl Try.ntmps30 rfl hS fun a w hS => ?_
 have hM := hm; clear hm
 rw [qV.m] at hM
 refine qo <| sA hS rfl fun hS => qz <| qo <| sM hS rfl fun hS => sM hS rfl fun hS => qT hS rfl Try.call37 (z5 hG K Ya Yb Yc (Ye.app _) Yd (hS.st.part 0 [] (by kernel_rfl)) (qE hM) (fun Yh w hM  hst => qP hS.ev hst.appF rfl fun hS => ?_))
 replace hS : Ss _ _ _ H [] F _ _ := hS
 refine sB hS rfl fun hS => zb (v := Value.bool) (x0 := (decide (Yh ≥ (0 : Int)))) hS (zG rfl) rfl fun Yg a w hz hS => ?_
 have hM := qA hz hM; clear hz
 refine qz <| wp_ret ?_
 exact qZ (rs := [4]) hS rfl rfl (hret Yg _ (qQ hM) (hS.st.pick [] (by kernel_rfl)))
def qf (p : qr) (x : qb) (vs : List Value) : Prop :=
  ∃ (A0 : Option Addr) (c0 : Nat), vs = [.int .i64 x.often_, .slice A0 x.symbols_.length c0] ∧ Pl p (ci .i64) A0 x.symbols_ ∧ x.symbols_.length ≤ c0
theorem qf.mono {p p' : qr} (hs : ∀ q ∈ p, q ∈ p') {x : qb} {vs : List Value} (h : qf p x vs) : qf p' x vs := by
  obtain ⟨A0, c0, h0, h1, h2⟩ := h
  exact ⟨A0, c0, h0, h1.mono hs, h2⟩
theorem xT {H : zB} {F : List qr} {w : World} {R : Ending → World → Prop} {kr : Bool → Prop} {kp : Value → Prop} (hG : Gl H) (K : Nat) (Ya : Int)
    (hS : St w H [] F) (hm : (zV.m K Ya).wp kr kp)
    (hret : ∀ (Yb : Bool) (w : World), kr Yb → St w H [] F → R (.returned (.bool Yb)) w) :
    Calls Try.prog 39 ⟨[.int .i64 Ya]⟩ w R := by
 refine enter Try.func39 rfl Try.ntmps39 rfl hS fun a w hS => ?_
 have hM := hm; clear hm
 rw [zV.m] at hM
 refine qo <| sA hS rfl fun hS => qz <| qo <| sM hS rfl fun hS => sM hS rfl fun hS => sB hS rfl fun hS => zb (v := Value.bool) (x0 := (Ya != Ya)) hS (zG rfl) rfl fun Yc a w hz hS => ?_
 have hM := qA hz hM; clear hz
 refine qz <| wp_ret ?_
 exact qZ (rs := [2]) hS rfl rfl (hret Yc _ (qQ hM) (hS.st.pick [] (by kernel_rfl)))
theorem xI {H : zB} {F : List qr} {w : World} {R : Ending → World → Prop} {kr : Int → Prop} {kp : Value → Prop} (hG : Gl H) (K : Nat) (Ya : Int) (Yb : Int)
    (hS : St w H [] F) (hm : (zK.m K Ya Yb).wp kr kp)
    (hret : ∀ (Yh : Int) (w : World), kr Yh → St w H [] F → R (.returned (.int .i64 Yh)) w) :
    Calls Try.prog 34 ⟨[.int .i64 Ya, .int .i64 Yb]⟩ w R := by
 refine enter Try.func34 rfl Try.ntmps34 rfl hS fun a w hS => ?_
 have hM := hm; clear hm
 rw [zK.m] at hM
 refine qo <| sA hS rfl fun hS => qz <| qo <| sM hS rfl fun hS => qT hS rfl Try.call39 (xT hG K Ya (hS.st.part 0 [] (by kernel_rfl)) (qE hM) (fun Yi w hM  hst => qP hS.ev hst.appF rfl fun hS => ?_))
 replace hS : Ss _ _ _ H [] F _ _ := hS
 refine sA hS rfl fun hS => qz <| qo <| sM hS rfl fun hS => qT hS rfl Try.call39 (xT hG K Yb (hS.st.part 0 [] (by kernel_rfl)) (qE hM) (fun Yj w hM  hst => qP hS.ev hst.appF rfl fun hS => ?_))
 replace hS : Ss _ _ _ H [] F _ _ := hS
 refine sA hS rfl fun hS => qz <| wp_seq <| qo <| sM hS rfl fun hS => qz <| qv hS rfl hM (fun Yc hM => ?_) (fun Yc hM => ?_)
 ·refine wp_seq ?_
  refine qo <| sM hS rfl fun hS => qz <| qv hS rfl hM (fun Yd hM => ?_) (fun Yd hM => ?_)
  ·refine wp_seq ?_
   refine zh <| sA hS rfl fun hS => qz <| wp_ret <| qy (qy ?_)
   exact qZ (rs := [4]) hS rfl rfl (hret (0 : Int) _ (qQ hM) (hS.st.pick [] (by kernel_rfl)))
  ·refine wp_skip ?_
   refine qh <| qo <| sA hS rfl fun hS => qz <| wp_ret <| qy ?_
   exact qZ (rs := [4]) hS rfl rfl (hret (-1 : Int) _ (qQ hM) (hS.st.pick [] (by kernel_rfl)))
 ·refine wp_skip ?_
  refine qh <| wp_seq <| qo <| sM hS rfl fun hS => qz <| qv hS rfl hM (fun Ye hM => ?_) (fun Ye hM => ?_)
  ·refine wp_seq ?_
   refine zh <| sA hS rfl fun hS => qz <| wp_ret <| qy ?_
   exact qZ (rs := [4]) hS rfl rfl (hret (1 : Int) _ (qQ hM) (hS.st.pick [] (by kernel_rfl)))
  ·refine wp_skip ?_
   refine qh <| wp_seq <| qo <| sM hS rfl fun hS => sM hS rfl fun hS => sB hS rfl fun hS => qz <| qv hS rfl hM (fun Yf hM => ?_) (fun Yf hM => ?_)
   ·refine wp_seq ?_
    refine zh <| sA hS rfl fun hS => qz <| wp_ret <| qy ?_
    exact qZ (rs := [4]) hS rfl rfl (hret (-1 : Int) _ (qQ hM) (hS.st.pick [] (by kernel_rfl)))
   ·refine wp_skip ?_
    refine qh <| wp_seq <| qo <| sM hS rfl fun hS => sM hS rfl fun hS => sB hS rfl fun hS => qz <| qv hS rfl hM (fun Yg hM => ?_) (fun Yg hM => ?_)
    ·refine wp_seq ?_
     refine zh <| sA hS rfl fun hS => qz <| wp_ret <| qy ?_
     exact qZ (rs := [4]) hS rfl rfl (hret (1 : Int) _ (qQ hM) (hS.st.pick [] (by kernel_rfl)))
    ·refine wp_skip ?_
     refine qh <| qo <| sA hS rfl fun hS => qz <| wp_ret ?_
     exact qZ (rs := [4]) hS rfl rfl (hret (0 : Int) _ (qQ hM) (hS.st.pick [] (by kernel_rfl)))
theorem y5 {H : zB} {F : List qr} {w : World} {R : Ending → World → Prop} {kr : Int → Prop} {kp : Value → Prop} (hG : Gl H) (K : Nat) (Ya : qb) (Yb : qb) (Yc : Option Addr) (Ye : Nat) (Yd : Option Addr) (Yf : Nat) (Yo : xx H [] F (ci .i64) Yc Ya.symbols_) (Ym : Ya.symbols_.length ≤ Ye) (Yp : xx H [] F (ci .i64) Yd Yb.symbols_) (Yn : Yb.symbols_.length ≤ Yf)
    (hS : St w H [] F) (hm : (zl.m K Ya Yb).wp kr kp)
    (hret : ∀ (Yi : Int) (w : World), kr Yi → St w H [] F → R (.returned (.int .i64 Yi)) w) :
    Calls Try.prog 33 ⟨[.agg ⟨[.int .i64 Ya.often_, .slice Yc Ya.symbols_.length Ye]⟩, .agg ⟨[.int .i64 Yb.often_, .slice Yd Yb.symbols_.length Yf]⟩]⟩ w R := by
 refine enter Try.func33 rfl Try.ntmps33 rfl hS fun a w hS => ?_
 have hM := hm; clear hm
 rw [zl.m] at hM
 refine qo <| bx ([.int .i64 Ya.often_, .slice Yc Ya.symbols_.length Ye]) hS rfl rfl rfl fun w Yq Yj Yg hS => bx ([.int .i64 Yb.often_, .slice Yd Yb.symbols_.length Yf]) hS rfl rfl rfl fun w Yr Yk Yh hS => sA hS rfl fun hS => qz <| qo <| sO hS (yZ rfl Try.runUnderlying70 rfl Try.sizeOf3 rfl) rfl fun hS => sO hS (uh 1 rfl Yg rfl rfl Try.isAgg3) rfl fun hS => sO hS (yZ rfl Try.runUnderlying70 rfl Try.sizeOf3 rfl) rfl fun hS => sO hS (uh 0 rfl Yh rfl rfl Try.isAgg3) rfl fun hS => qT hS rfl Try.call34 (xI hG K Ya.often_ Yb.often_ (hS.st.part 0 [0, 1] (by kernel_rfl)) (qE hM) (fun Yl w hM  hst => qP hS.ev hst.appF rfl fun hS => ?_))
 replace hS : Ss _ _ _ H [Yk, Yj] F _ _ := hS
 refine sA hS rfl fun hS => qz <| wp_ret ?_
 exact qZ (rs := [4]) hS rfl rfl (hret Yl _ (qQ hM) (hS.st.pick [] (by kernel_rfl)))
theorem ji {H : zB} {F : List qr} {w : World} {R : Ending → World → Prop} {kr : Int → Prop} {kp : Value → Prop} (hG : Gl H) (K : Nat) (Ya : qb) (Yb : qb) (Yc : Option Addr) (Ye : Nat) (Yd : Option Addr) (Yf : Nat) (Yo : xx H [] F (ci .i64) Yc Ya.symbols_) (Ym : Ya.symbols_.length ≤ Ye) (Yp : xx H [] F (ci .i64) Yd Yb.symbols_) (Yn : Yb.symbols_.length ≤ Yf)
    (hS : St w H [] F) (hm : (zl.m K Ya Yb).wp kr kp)
    (hret : ∀ (Yg : Int) (w : World), kr Yg → St w H [] F → R (.returned (.int .i64 Yg)) w) :
    Calls Try.prog 41 ⟨[.agg ⟨[.int .i64 Ya.often_, .slice Yc Ya.symbols_.length Ye]⟩, .agg ⟨[.int .i64 Yb.often_, .slice Yd Yb.symbols_.length Yf]⟩]⟩ w R := by
 refine enter Try.func41 rfl Try.ntmps41 rfl hS fun a w hS => ?_
 have hM := hm; clear hm
 rw [zl.m] at hM
 refine qo <| bx ([.int .i64 Ya.often_, .slice Yc Ya.symbols_.length Ye]) hS rfl rfl rfl fun w Yq Yj Yh hS => bx ([.int .i64 Yb.often_, .slice Yd Yb.symbols_.length Yf]) hS rfl rfl rfl fun w Yr Yk Yi hS => sA hS rfl fun hS => qz <| qo <| sO hS (yZ rfl Try.runUnderlying70 rfl Try.sizeOf3 rfl) rfl fun hS => sO hS (uh 1 rfl Yh rfl rfl Try.isAgg3) rfl fun hS => sO hS (yZ rfl Try.runUnderlying70 rfl Try.sizeOf3 rfl) rfl fun hS => sO hS (uh 0 rfl Yi rfl rfl Try.isAgg3) rfl fun hS => qT hS rfl Try.call34 (xI hG K Ya.often_ Yb.often_ (hS.st.part 0 [0, 1] (by kernel_rfl)) (qE hM) (fun Yl w hM  hst => qP hS.ev hst.appF rfl fun hS => ?_))
 replace hS : Ss _ _ _ H [Yk, Yj] F _ _ := hS
 refine sA hS rfl fun hS => qz <| wp_ret ?_
 exact qZ (rs := [4]) hS rfl rfl (hret Yl _ (qQ hM) (hS.st.pick [] (by kernel_rfl)))
theorem jk (cq : Nat) (hcq : cq = 33 ∨ cq = 41) {H : zB} {F : List qr} {w : World} {R : Ending → World → Prop} {kr : Int → Prop} {kp : Value → Prop} (hG : Gl H) (K : Nat) (Ya : qb) (Yb : qb) (Yc : Option Addr) (Ye : Nat) (Yd : Option Addr) (Yf : Nat) (Yi : xx H [] F (ci .i64) Yc Ya.symbols_) (Yg : Ya.symbols_.length ≤ Ye) (Yj : xx H [] F (ci .i64) Yd Yb.symbols_) (Yh : Yb.symbols_.length ≤ Yf)
    (hS : St w H [] F) (hm : (zl.m K Ya Yb).wp kr kp)
    (hret : ∀ (Yk : Int) (w : World), kr Yk → St w H [] F → R (.returned (.int .i64 Yk)) w) :
    Calls Try.prog cq ⟨[.agg ⟨[.int .i64 Ya.often_, .slice Yc Ya.symbols_.length Ye]⟩, .agg ⟨[.int .i64 Yb.often_, .slice Yd Yb.symbols_.length Yf]⟩]⟩ w R := by
 rcases hcq with rfl | rfl
 · exact y5 hG K Ya Yb Yc Ye Yd Yf Yi Yg Yj Yh hS hm hret
 · exact ji hG K Ya Yb Yc Ye Yd Yf Yi Yg Yj Yh hS hm hret
theorem yJ {cq : Nat} (hcq : cq = 33 ∨ cq = 41) (args : Array Value) (w : World) : (callFunc cq args).run Try.prog w = .ok (.enter cq args) w := by
 rcases hcq with rfl | rfl
 · exact Try.call33 args w
 · exact Try.call41 args w
theorem zj (cq : Nat) (hcq : cq = 33 ∨ cq = 41) {H : zB} {F : List qr} {w : World} {R : Ending → World → Prop} {kr : (List qb) → Prop} {kp : Value → Prop} (hG : Gl H) (K : Nat) (Yo : List qb) (Ye : Int) (Yh : Int) (Yk : qr) (Yc : Option Addr) (Yf : Nat) (Yl : List (qG 2)) (YV : qr) (Jf : qD (qf Yk) Yo Yl) (Y3 : zJ 70 (qG.v (sz := 2)) 2 Yc Yl Yf YV)
    (hS : St w H [Yk, YV] F) (hm : (qc.m K Yo Ye Yh).wp kr kp)
    (hret : ∀ (YF : List (qG 2)) (Yu : (List qb)) (YY : qr) (w : World), kr Yu → (zJ 70 (qG.v (sz := 2)) 2 Yc YF Yf YY) → (qD (qf Yk) Yu YF) → (YF.length = Yl.length) → St w H [Yk, YY] F → R (.returned (.tuple ⟨[]⟩)) w) :
    Calls Try.prog 43 ⟨[.slice Yc Yl.length Yf, .int .i64 Ye, .int .i64 Yh, xE cq [] []]⟩ w R := by
 refine enter Try.func43 rfl Try.ntmps43 rfl hS fun a w hS => ?_
 have hM := hm; clear hm
 rw [qc.m] at hM
 have Jt : ∀ q ∈ Yk, q ∈ Yk := fun _ h => h
 have Jk : Yl.length = Yl.length := rfl
 refine qo <| sM hS rfl fun hS => sB hS rfl fun hS => zb (v := Value.int .i64) (x0 := (ql (Ye + (1 : Int)))) hS (zG rfl) rfl fun Jq a w hz hS => ?_
 have hM := qA hz hM; clear hz
 refine qz <| zP <| qU (fun YD a w => ∃ (Yn : List (qG 2)) (Yj : (List qb)) (Yx : qr) (Ym : Int), Ss 53 [] [(0, .slice Yc Yn.length Yf), (1, .int .i64 Ye), (2, .int .i64 Yh), (3, xE cq [] []), (8, .int .i64 Ym)] H [Yk, Yx] F a w ∧ (zJ 70 (qG.v (sz := 2)) 2 Yc Yn Yf Yx) ∧ (qD (qf Yk) Yj Yn) ∧ (Yn.length = Yl.length) ∧ (qc.l1 K Ye Yh YD Yj Ym).wp kr kp) K ?_ ?_ ?_
 ·exact ⟨Yl, Yo, YV, Jq, hS.to [0, 1] (by kernel_rfl) ⟨rfl, rfl, rfl, rfl, rfl, trivial⟩, Y3, Jf, Jk, hM⟩
 ·intro a w hI; obtain ⟨_, _, _, _, _, _, _, _, hM⟩ := hI; exact qS hM
 ·intro YD a w hI Jw Y0
  obtain ⟨Yn, Yj, Yx, Ym, hS, YM, YP, YR, hM⟩ := hI
  rw [qc.l1] at hM
  refine wp_seq <| qo <| sM hS rfl fun hS => sM hS rfl fun hS => sB hS rfl fun hS => qz <| qv hS rfl hM (fun Y5 hM => ?_) (fun Y5 hM => ?_)
  ·refine wp_skip ?_
   refine qh <| wp_seq <| zP <| qo <| sM hS rfl fun hS => sA hS rfl fun hS => qz <| zP <| qU (fun YW a w => ∃ (Yd : List (qG 2)) (Ya : (List qb)) (Yw : qr) (Yb : Int), Ss 53 [] [(0, .slice Yc Yd.length Yf), (1, .int .i64 Ye), (2, .int .i64 Yh), (3, xE cq [] []), (8, .int .i64 Ym), (9, .int .i64 Yb)] H [Yk, Yw] F a w ∧ (zJ 70 (qG.v (sz := 2)) 2 Yc Yd Yf Yw) ∧ (qD (qf Yk) Ya Yd) ∧ (Yd.length = Yl.length) ∧ (qc.l2 K (qc.l1 K Ye Yh YD) Ye Ym YW Ya Yb).wp kr kp) K ?_ ?_ ?_
   ·exact ⟨Yn, Yj, Yx, Ym, hS.to [0, 1] (by kernel_rfl) ⟨rfl, rfl, rfl, rfl, rfl, rfl, trivial⟩, YM, YP, YR, hM⟩
   ·intro a w hI; obtain ⟨_, _, _, _, _, _, _, _, hM⟩ := hI; exact qS hM
   ·intro YW a w hI Jv YZ
    obtain ⟨Yd, Ya, Yw, Yb, hS, Yi, Yg, YS, hM⟩ := hI
    rw [qc.l2] at hM
    refine wp_seq <| qR (fun a w => ∃ (YX : Bool), Ss 53 [] [(0, .slice Yc Yd.length Yf), (1, .int .i64 Ye), (2, .int .i64 Yh), (3, xE cq [] []), (8, .int .i64 Ym), (9, .int .i64 Yb), (34, .bool YX)] H [Yk, Yw] F a w ∧ (qc.j3 K (qc.l1 K Ye Yh YD) (qc.l2 K (qc.l1 K Ye Yh YD) Ye Ym YW) Ym Ya Yb YX).wp kr kp) (fun Ju YL => ?_) ?_
    ·refine uW (b := (decide (Yb > Ye))) hM (fun Yy hM => ?_) (fun Yy hM => ?_)
     ·obtain ⟨Yz, hM⟩ := qx hM
      obtain ⟨YH, YJ, Jg, Jb, Y7⟩ := Yg.get Yz
      obtain ⟨YA, hM⟩ := qx hM
      obtain ⟨YI, YK, Jh, Jc, Y8⟩ := Yg.get YA
      refine zc (vals := [some (.int .i64 Yb), some (.int .i64 Ye), some (.bool true), some (.bool true), some (xE cq [] []), some (.slice Yc Yd.length Yf), some (.int .i64 Yb), some (zn Yc (Int.toNat Yb * 2)), some (.agg ⟨[.int .i64 ((rd Ya Yb).often_), .slice YH ((rd Ya Yb).symbols_).length YJ]⟩), some (.slice Yc Yd.length Yf), some (.int .i64 Yb), some (.int .i64 (ql (Yb - (1 : Int)))), some (zn Yc (Int.toNat (ql (Yb - (1 : Int))) * 2)), some (.agg ⟨[.int .i64 ((rd Ya (ql (Yb - (1 : Int)))).often_), .slice YI ((rd Ya (ql (Yb - (1 : Int)))).symbols_).length YK]⟩), none, none, none]) hS xc rfl ?_
      intro l w ho hcl hA hst
      refine vP hA hst ho hcl xS xe 14 [0, 1, 2, 3, 4, 5, 6, 7, 8, 9, 10, 11, 12, 13] rfl rfl rfl rfl rfl (by exact ⟨nM rfl, nM rfl, nQ rfl (by exact qW (xq rfl rfl rfl) (congrArg Value.bool Yy)), nM rfl, nW rfl rfl rfl rfl rfl rfl rfl rfl (by exact qW (mv rfl) rfl), nW rfl rfl rfl rfl rfl rfl rfl rfl (by exact qW (mv rfl) rfl), nW rfl rfl rfl rfl rfl rfl rfl rfl (by exact qW (mv rfl) rfl), nW rfl rfl rfl rfl rfl rfl rfl rfl (by exact qW (zM rfl rfl Try.runUnderlying68 Try.sizeOf70 (Yi.rd (i := 1) rfl) qG.len rfl (Yg.inb Yz)) rfl), nW rfl rfl rfl rfl rfl rfl rfl rfl (by exact qW (qW (yl rfl (Yi.rd (i := 1) rfl) qG.len (Yg.inb Yz) Try.isAgg70 Try.sizeOf70 rfl) (congrArg (fun l => Value.agg ⟨l⟩) Jg)) rfl), nW rfl rfl rfl rfl rfl rfl rfl rfl (by exact qW (mv rfl) rfl), nW rfl rfl rfl rfl rfl rfl rfl rfl (by exact qW (mv rfl) rfl), nW rfl rfl rfl rfl rfl rfl rfl rfl (by exact qW (xq rfl rfl rfl) rfl), nW rfl rfl rfl rfl rfl rfl rfl rfl (by exact qW (zM rfl rfl Try.runUnderlying68 Try.sizeOf70 (Yi.rd (i := 1) rfl) qG.len rfl (Yg.inb YA)) rfl), nW rfl rfl rfl rfl rfl rfl rfl rfl (by exact qW (qW (yl rfl (Yi.rd (i := 1) rfl) qG.len (Yg.inb YA) Try.isAgg70 Try.sizeOf70 rfl) (congrArg (fun l => Value.agg ⟨l⟩) Jh)) rfl), trivial⟩) fun D l a w ho hcl hav hpre hm hE hk hA hst => ?_
      have hS := (Ss.mk hE hst).env2 (e' := [(21, .bool true), (22, xE cq [] []), (26, .agg ⟨[.int .i64 ((rd Ya Yb).often_), .slice YH ((rd Ya Yb).symbols_).length YJ]⟩), (31, .agg ⟨[.int .i64 ((rd Ya (ql (Yb - (1 : Int)))).often_), .slice YI ((rd Ya (ql (Yb - (1 : Int)))).symbols_).length YK]⟩)]) ⟨rfl, rfl, rfl, rfl, trivial⟩
      refine zr rfl <| xD hS rfl rfl rfl rfl <| yU hS rfl rfl (yJ hcq) (jk cq hcq hG K (qb.mk ((rd Ya Yb).often_) ((rd Ya Yb).symbols_)) (qb.mk ((rd Ya (ql (Yb - (1 : Int)))).often_) ((rd Ya (ql (Yb - (1 : Int)))).symbols_)) YH YJ YI YK (Jb.rdF (i := 0) rfl) Y7 (Jc.rdF (i := 0) rfl) Y8 (hS.st.part 0 [0, 1] (by kernel_rfl)) (qE hM) (fun YG w hM  hst => qP hS.ev hst.appF rfl fun hS => ?_))
      replace hS : Ss _ _ _ H [Yk, Yw] F _ _ := hS
      refine qz ?_
      replace hst := hS.st
      obtain ⟨hcl, hmust, hav2, hA⟩ := dn (vals' := [some (.int .i64 Yb), some (.int .i64 Ye), some (.bool true), some (.bool true), some (xE cq [] []), some (.slice Yc Yd.length Yf), some (.int .i64 Yb), some (zn Yc (Int.toNat Yb * 2)), some (.agg ⟨[.int .i64 ((rd Ya Yb).often_), .slice YH ((rd Ya Yb).symbols_).length YJ]⟩), some (.slice Yc Yd.length Yf), some (.int .i64 Yb), some (.int .i64 (ql (Yb - (1 : Int)))), some (zn Yc (Int.toNat (ql (Yb - (1 : Int))) * 2)), some (.agg ⟨[.int .i64 ((rd Ya (ql (Yb - (1 : Int)))).often_), .slice YI ((rd Ya (ql (Yb - (1 : Int)))).symbols_).length YK]⟩), some (.int .i64 YG), some (.bool (decide (YG < (0 : Int)))), some (.bool (decide (YG < (0 : Int))))]) 14 [(3, 14), (4, 14), (8, 14), (13, 14), (2, 3), (7, 8), (12, 13), (0, 2), (1, 2), (5, 7), (6, 7), (9, 12), (11, 12), (10, 11)] hA hcl hav hm hpre hk rfl rfl rfl rfl rfl rfl rfl
      clear hm hav
      refine x8 hA hst ho hcl hmust [15, 16] rfl rfl rfl (by exact ⟨nW rfl rfl rfl rfl rfl rfl rfl rfl (by exact qW (xq rfl rfl rfl) rfl), nQ rfl (by exact qW (pk rfl rfl rfl) rfl), trivial⟩) fun a w hS => ?_
      replace hS := hS.env2 (e' := [(0, .slice Yc Yd.length Yf), (1, .int .i64 Ye), (2, .int .i64 Yh), (3, xE cq [] []), (8, .int .i64 Ym), (9, .int .i64 Yb), (34, .bool (decide (YG < (0 : Int))))]) ⟨rfl, rfl, rfl, rfl, rfl, rfl, rfl, trivial⟩
      refine qh ?_
      exact YL _ _ ⟨(decide (YG < (0 : Int))), hS.to [0, 1] (by kernel_rfl) ⟨rfl, rfl, rfl, rfl, rfl, rfl, rfl, trivial⟩, hM⟩
     ·refine zc (vals := [some (.int .i64 Yb), some (.int .i64 Ye), some (.bool false), some (.bool false), some (undef), some (undef), some (undef), some (undef), some (undef), some (undef), some (undef), some (undef), some (undef), some (undef), some (undef), some (undef), some (.bool false)]) hS xc rfl ?_
      intro l w ho hcl hA hst
      refine x8 hA hst ho hcl xe [0, 1, 2, 3, 4, 5, 6, 7, 8, 9, 10, 11, 12, 13, 14, 15, 16] rfl rfl rfl (by exact ⟨nM rfl, nM rfl, nQ rfl (by exact qW (xq rfl rfl rfl) (congrArg Value.bool Yy)), nM rfl, nS rfl rfl rfl rfl rfl rfl rfl rfl rfl, nS rfl rfl rfl rfl rfl rfl rfl rfl rfl, nS rfl rfl rfl rfl rfl rfl rfl rfl rfl, nS rfl rfl rfl rfl rfl rfl rfl rfl rfl, nS rfl rfl rfl rfl rfl rfl rfl rfl rfl, nS rfl rfl rfl rfl rfl rfl rfl rfl rfl, nS rfl rfl rfl rfl rfl rfl rfl rfl rfl, nS rfl rfl rfl rfl rfl rfl rfl rfl rfl, nS rfl rfl rfl rfl rfl rfl rfl rfl rfl, nS rfl rfl rfl rfl rfl rfl rfl rfl rfl, nS rfl rfl rfl rfl rfl rfl rfl rfl rfl, nS rfl rfl rfl rfl rfl rfl rfl rfl rfl, nQ rfl (by exact qW (pk rfl rfl rfl) rfl), trivial⟩) fun a w hS => ?_
      replace hS := hS.env2 (e' := [(0, .slice Yc Yd.length Yf), (1, .int .i64 Ye), (2, .int .i64 Yh), (3, xE cq [] []), (8, .int .i64 Ym), (9, .int .i64 Yb), (34, .bool false)]) ⟨rfl, rfl, rfl, rfl, rfl, rfl, rfl, trivial⟩
      refine qh ?_
      exact YL _ _ ⟨false, hS.to [0, 1] (by kernel_rfl) ⟨rfl, rfl, rfl, rfl, rfl, rfl, rfl, trivial⟩, hM⟩
    ·intro a w hI
     obtain ⟨YX, hS, hM⟩ := hI
     rw [qc.j3] at hM
     refine qv hS rfl hM (fun Y6 hM => ?_) (fun Y6 hM => ?_)
     ·refine wp_skip ?_
      refine qh <| wp_seq <| zP ?_
      obtain ⟨YB, hM⟩ := qx hM
      obtain ⟨Yq, Ys, Ji, Jd, Y9⟩ := Yg.get YB
      obtain ⟨Yp, hM⟩ := qx hM
      obtain ⟨Yr, Yt, Jj, Je, Ja⟩ := Yg.get Yp
      refine zc (vals := [some (.slice Yc Yd.length Yf), some (.int .i64 Yb), some (.slice Yc Yd.length Yf), some (.int .i64 Yb), some (.int .i64 (ql (Yb - (1 : Int)))), some (.slice Yc Yd.length Yf), some (.int .i64 Yb), some (.int .i64 (ql (Yb - (1 : Int)))), some (zn Yc (Int.toNat (ql (Yb - (1 : Int))) * 2)), some (.agg ⟨[.int .i64 ((rd Ya (ql (Yb - (1 : Int)))).often_), .slice Yq ((rd Ya (ql (Yb - (1 : Int)))).symbols_).length Ys]⟩), some (.slice Yc Yd.length Yf), some (.int .i64 Yb), some (zn Yc (Int.toNat Yb * 2)), some (.agg ⟨[.int .i64 ((rd Ya Yb).often_), .slice Yr ((rd Ya Yb).symbols_).length Yt]⟩), some (zn Yc (Int.toNat Yb * 2)), none, none, none]) hS xc rfl ?_
      intro l w ho hcl hA hst
      refine vP hA hst ho hcl xS xe 15 [0, 1, 2, 3, 4, 5, 6, 7, 8, 9, 10, 11, 12, 13, 14] rfl rfl rfl rfl rfl (by exact ⟨nM rfl, nM rfl, nM rfl, nM rfl, nB rfl, nM rfl, nM rfl, nB rfl, nQ rfl (by exact qW (zM rfl rfl Try.runUnderlying68 Try.sizeOf70 (Yi.rd (i := 1) rfl) qG.len rfl (Yg.inb YB)) rfl), nQ rfl (by exact qW (qW (yl rfl (Yi.rd (i := 1) rfl) qG.len (Yg.inb YB) Try.isAgg70 Try.sizeOf70 rfl) (congrArg (fun l => Value.agg ⟨l⟩) Ji)) rfl), nM rfl, nM rfl, nQ rfl (by exact qW (zM rfl rfl Try.runUnderlying68 Try.sizeOf70 (Yi.rd (i := 1) rfl) qG.len rfl (Yg.inb Yp)) rfl), nQ rfl (by exact qW (qW (yl rfl (Yi.rd (i := 1) rfl) qG.len (Yg.inb Yp) Try.isAgg70 Try.sizeOf70 rfl) (congrArg (fun l => Value.agg ⟨l⟩) Jj)) rfl), nQ rfl (by exact qW (zM rfl rfl Try.runUnderlying68 Try.sizeOf70 (Yi.rd (i := 1) rfl) qG.len rfl (Yg.inb Yp)) rfl), trivial⟩) fun D l a w ho hcl hav hpre hm hE hk hA hst => ?_
      have hS := (Ss.mk hE hst).env2 (e' := [(46, .agg ⟨[.int .i64 ((rd Ya (ql (Yb - (1 : Int)))).often_), .slice Yq ((rd Ya (ql (Yb - (1 : Int)))).symbols_).length Ys]⟩), (51, zn Yc (Int.toNat Yb * 2))]) ⟨rfl, rfl, trivial⟩
      refine zr rfl <| vV (i := Yb) (sz := 2) 1 (⟨[.int .i64 ((rd Ya (ql (Yb - (1 : Int)))).often_), .slice Yq ((rd Ya (ql (Yb - (1 : Int)))).symbols_).length Ys], by simp, by simp [Value.oneCell']⟩ : qG 2) hS rfl rfl Yi rfl Try.sizeOf70 rfl (Yg.inb Yp) fun YU w Jx hz YN hS => ?_
      obtain ⟨Jn, hzm⟩ := yd (Ya.set (Int.toNat Yb) (qb.mk ((rd Ya (ql (Yb - (1 : Int)))).often_) ((rd Ya (ql (Yb - (1 : Int)))).symbols_)))
      replace hM := qA hzm hM
      have Yv := qD.set (x := (qb.mk ((rd Ya (ql (Yb - (1 : Int)))).often_) ((rd Ya (ql (Yb - (1 : Int)))).symbols_))) (r := (⟨[.int .i64 ((rd Ya (ql (Yb - (1 : Int)))).often_), .slice Yq ((rd Ya (ql (Yb - (1 : Int)))).symbols_).length Ys], by simp, by simp [Value.oneCell']⟩ : qG 2)) (Int.toNat Yb) Yg (show qf Yk _ _ from ⟨Yq, Ys, rfl, Jd, Y9⟩)
      have YC : YU.length = Yd.length := by rw [hz]; exact List.length_set ..
      rw [← hz, ← hzm] at Yv; clear hz hzm
      have Jl := Eq.trans YC YS
      refine qz ?_
      replace hst := hS.st
      obtain ⟨YO, hM⟩ := qx hM
      obtain ⟨hcl, hmust, hav2, hA⟩ := QV (vals' := [some (.slice Yc Yd.length Yf), some (.int .i64 Yb), some (.slice Yc Yd.length Yf), some (.int .i64 Yb), some (.int .i64 (ql (Yb - (1 : Int)))), some (.slice Yc Yd.length Yf), some (.int .i64 Yb), some (.int .i64 (ql (Yb - (1 : Int)))), some (zn Yc (Int.toNat (ql (Yb - (1 : Int))) * 2)), some (.agg ⟨[.int .i64 ((rd Ya (ql (Yb - (1 : Int)))).often_), .slice Yq ((rd Ya (ql (Yb - (1 : Int)))).symbols_).length Ys]⟩), some (.slice Yc Yd.length Yf), some (.int .i64 Yb), some (zn Yc (Int.toNat Yb * 2)), some (.agg ⟨[.int .i64 ((rd Ya Yb).often_), .slice Yr ((rd Ya Yb).symbols_).length Yt]⟩), some (zn Yc (Int.toNat Yb * 2)), some undef, some (zn Yc (Int.toNat (ql (Yb - (1 : Int))) * 2)), none]) 15 [(0, 15), (1, 15), (5, 15), (6, 15), (7, 15), (8, 15), (9, 15), (13, 15), (14, 15), (12, 13), (10, 12), (11, 12)] hA hcl hav hm hpre rfl rfl rfl rfl rfl
      clear hm hav
      refine vP hA hst ho hcl hav2 hmust 17 [2, 3, 4, 16] rfl rfl rfl rfl rfl (by exact ⟨nM rfl, nM rfl, nB rfl, nQ rfl (by exact qW (zM (Q4 YC rfl) rfl Try.runUnderlying68 Try.sizeOf70 (YN.rd (i := 1) rfl) qG.len rfl (Yv.inb YO)) rfl), trivial⟩) fun D l a w ho hcl hav hpre hm hE hk hA hst => ?_
      have hS := (Ss.mk hE hst).env2 (e' := [(50, .agg ⟨[.int .i64 ((rd Ya Yb).often_), .slice Yr ((rd Ya Yb).symbols_).length Yt]⟩), (52, zn Yc (Int.toNat (ql (Yb - (1 : Int))) * 2))]) ⟨rfl, rfl, trivial⟩
      refine zr rfl <| vV (i := (ql (Yb - (1 : Int)))) (sz := 2) 1 (⟨[.int .i64 ((rd Ya Yb).often_), .slice Yr ((rd Ya Yb).symbols_).length Yt], by simp, by simp [Value.oneCell']⟩ : qG 2) hS rfl rfl YN rfl Try.sizeOf70 rfl (Yv.inb YO) fun YE w Jp hz Y4 hS => ?_
      obtain ⟨Jo, hzm⟩ := yd (Jn.set (Int.toNat (ql (Yb - (1 : Int)))) (qb.mk ((rd Ya Yb).often_) ((rd Ya Yb).symbols_)))
      replace hM := qA hzm hM
      have YQ := qD.set (x := (qb.mk ((rd Ya Yb).often_) ((rd Ya Yb).symbols_))) (r := (⟨[.int .i64 ((rd Ya Yb).often_), .slice Yr ((rd Ya Yb).symbols_).length Yt], by simp, by simp [Value.oneCell']⟩ : qG 2)) (Int.toNat (ql (Yb - (1 : Int)))) Yv (show qf Yk _ _ from ⟨Yr, Yt, rfl, Je, Ja⟩)
      have YT : YE.length = YU.length := by rw [hz]; exact List.length_set ..
      rw [← hz, ← hzm] at YQ; clear hz hzm
      have Jm := Eq.trans YT Jl
      refine qz ?_
      replace hst := hS.st
      obtain ⟨hcl, hmust, hav2, hA⟩ := QV (vals' := [some (.slice Yc Yd.length Yf), some (.int .i64 Yb), some (.slice Yc Yd.length Yf), some (.int .i64 Yb), some (.int .i64 (ql (Yb - (1 : Int)))), some (.slice Yc Yd.length Yf), some (.int .i64 Yb), some (.int .i64 (ql (Yb - (1 : Int)))), some (zn Yc (Int.toNat (ql (Yb - (1 : Int))) * 2)), some (.agg ⟨[.int .i64 ((rd Ya (ql (Yb - (1 : Int)))).often_), .slice Yq ((rd Ya (ql (Yb - (1 : Int)))).symbols_).length Ys]⟩), some (.slice Yc Yd.length Yf), some (.int .i64 Yb), some (zn Yc (Int.toNat Yb * 2)), some (.agg ⟨[.int .i64 ((rd Ya Yb).often_), .slice Yr ((rd Ya Yb).symbols_).length Yt]⟩), some (zn Yc (Int.toNat Yb * 2)), some undef, some (zn Yc (Int.toNat (ql (Yb - (1 : Int))) * 2)), some undef]) 17 [(0, 17), (1, 17), (2, 17), (3, 17), (4, 17), (5, 17), (6, 17), (7, 17), (8, 17), (9, 17), (10, 17), (11, 17), (12, 17), (13, 17), (14, 17), (15, 17), (16, 17)] hA hcl hav hm hpre rfl rfl rfl rfl rfl
      clear hm hav
      refine x8 hA hst ho hcl hmust [] rfl rfl rfl trivial fun a w hS => ?_
      replace hS := hS.env2 (e' := [(0, .slice Yc YE.length Yf), (1, .int .i64 Ye), (2, .int .i64 Yh), (3, xE cq [] []), (8, .int .i64 Ym), (9, .int .i64 Yb)]) ⟨(Qz (u := .slice Yc Yd.length Yf) rfl (by rw [YT, YC])), rfl, rfl, rfl, rfl, rfl, trivial⟩
      refine ze (qh ?_)
      refine zh <| sM hS rfl fun hS => sB hS rfl fun hS => zb (v := Value.int .i64) (x0 := (ql (Yb - (1 : Int)))) hS (zG rfl) rfl fun Js a w hz hS => ?_
      have hM := qA hz hM; clear hz
      refine qK <| qh ?_
      exact YZ _ _ ⟨YE, Jo, Jp, Js, hS.to [0, 1] (by kernel_rfl) ⟨rfl, rfl, rfl, rfl, rfl, rfl, trivial⟩, Y4, YQ, Jm, hM⟩
     ·refine wp_exit ?_
      refine qu (qu (qJ (ze (qh ?_))))
      refine zh <| sM hS rfl fun hS => sB hS rfl fun hS => zb (v := Value.int .i64) (x0 := (ql (Ym + (1 : Int)))) hS (zG rfl) rfl fun Jr a w hz hS => ?_
      have hM := qA hz hM; clear hz
      refine qK <| qh ?_
      exact Y0 _ _ ⟨Yd, Ya, Yw, Jr, hS.to [0, 1] (by kernel_rfl) ⟨rfl, rfl, rfl, rfl, rfl, trivial⟩, Yi, Yg, YS, hM⟩
  ·refine wp_exit ?_
   refine qu (qu (qJ ?_))
   exact jH (rs := []) hS rfl rfl (hret Yn Yj Yx _ (qQ hM) YM YP YR (hS.st.pick [0, 1] (by kernel_rfl)))
theorem q7 (cq : Nat) (hcq : cq = 33 ∨ cq = 41) {H : zB} {F : List qr} {w : World} {R : Ending → World → Prop} {kr : (List qb) → Prop} {kp : Value → Prop} (hG : Gl H) (K : Nat) (Yp : List qb) (Yc : Int) (Yd : Int) (Yr : Int) (Yj : qr) (Ye : Option Addr) (Yg : Nat) (Yi : List (qG 2)) (Yz : qr) (YQ : qD (qf Yj) Yp Yi) (YJ : zJ 70 (qG.v (sz := 2)) 2 Ye Yi Yg Yz)
    (hS : St w H [Yj, Yz] F) (hm : (qm.m K Yp Yc Yd Yr).wp kr kp)
    (hret : ∀ (Yx : List (qG 2)) (Yt : (List qb)) (YG : qr) (w : World), kr Yt → (zJ 70 (qG.v (sz := 2)) 2 Ye Yx Yg YG) → (qD (qf Yj) Yt Yx) → (Yx.length = Yi.length) → St w H [Yj, YG] F → R (.returned (.tuple ⟨[]⟩)) w) :
    Calls Try.prog 48 ⟨[.slice Ye Yi.length Yg, .int .i64 Yc, .int .i64 Yd, .int .i64 Yr, xE cq [] []]⟩ w R := by
 refine enter Try.func48 rfl Try.ntmps48 rfl hS fun a w hS => ?_
 have hM := hm; clear hm
 rw [qm.m] at hM
 have Y0 : ∀ q ∈ Yj, q ∈ Yj := fun _ h => h
 have YT : Yi.length = Yi.length := rfl
 refine qo <| sA hS rfl fun hS => qz <| zP <| qU (fun YH a w => ∃ (Yf : List (qG 2)) (Yb : (List qb)) (Yy : qr) (Ya : Int), Ss 38 [] [(0, .slice Ye Yf.length Yg), (1, .int .i64 Yc), (2, .int .i64 Yd), (3, .int .i64 Yr), (10, .int .i64 Ya)] H [Yj, Yy] F a w ∧ (zJ 70 (qG.v (sz := 2)) 2 Ye Yf Yg Yy) ∧ (qD (qf Yj) Yb Yf) ∧ (Yf.length = Yi.length) ∧ (qm.l1 K Yc Yd Yr YH Yb Ya).wp kr kp) K ?_ ?_ ?_
 ·exact ⟨Yi, Yp, Yz, (0 : Int), hS.to [0, 1] (by kernel_rfl) ⟨rfl, rfl, rfl, rfl, rfl, trivial⟩, YJ, YQ, YT, hM⟩
 ·intro a w hI; obtain ⟨_, _, _, _, _, _, _, _, hM⟩ := hI; exact qS hM
 ·intro YH a w hI Y3 YI
  obtain ⟨Yf, Yb, Yy, Ya, hS, Yk, Yh, YD, hM⟩ := hI
  rw [qm.l1] at hM
  refine wp_seq <| qo <| sM hS rfl fun hS => sM hS rfl fun hS => sB hS rfl fun hS => qz <| qv hS rfl hM (fun YL hM => ?_) (fun YL hM => ?_)
  ·refine wp_skip ?_
   refine qh <| wp_seq <| zP ?_
   obtain ⟨Yu, hM⟩ := qx hM
   obtain ⟨Yl, Yn, YR, YO, YM⟩ := Yh.get Yu
   obtain ⟨Yq, hM⟩ := qx hM
   obtain ⟨Ym, Yo, YS, YP, YN⟩ := Yh.get Yq
   refine zc (vals := [some (.slice Ye Yf.length Yg), some (.int .i64 Yc), some (.int .i64 Ya), some (.int .i64 (ql (Yc + Ya))), some (.slice Ye Yf.length Yg), some (.int .i64 Yd), some (.int .i64 Ya), some (.int .i64 (ql (Yd + Ya))), some (.slice Ye Yf.length Yg), some (.int .i64 Yd), some (.int .i64 Ya), some (.int .i64 (ql (Yd + Ya))), some (zn Ye (Int.toNat (ql (Yd + Ya)) * 2)), some (.agg ⟨[.int .i64 ((rd Yb (ql (Yd + Ya))).often_), .slice Yl ((rd Yb (ql (Yd + Ya))).symbols_).length Yn]⟩), some (.slice Ye Yf.length Yg), some (.int .i64 Yc), some (.int .i64 Ya), some (.int .i64 (ql (Yc + Ya))), some (zn Ye (Int.toNat (ql (Yc + Ya)) * 2)), some (.agg ⟨[.int .i64 ((rd Yb (ql (Yc + Ya))).often_), .slice Ym ((rd Yb (ql (Yc + Ya))).symbols_).length Yo]⟩), some (zn Ye (Int.toNat (ql (Yc + Ya)) * 2)), none, none, none]) hS xc rfl ?_
   intro l w ho hcl hA hst
   refine vP hA hst ho hcl xS xe 21 [0, 1, 2, 3, 4, 5, 6, 7, 8, 9, 10, 11, 12, 13, 14, 15, 16, 17, 18, 19, 20] rfl rfl rfl rfl rfl (by exact ⟨nM rfl, nM rfl, nM rfl, nB rfl, nM rfl, nM rfl, nM rfl, nB rfl, nM rfl, nM rfl, nM rfl, nB rfl, nQ rfl (by exact qW (zM rfl rfl Try.runUnderlying68 Try.sizeOf70 (Yk.rd (i := 1) rfl) qG.len rfl (Yh.inb Yu)) rfl), nQ rfl (by exact qW (qW (yl rfl (Yk.rd (i := 1) rfl) qG.len (Yh.inb Yu) Try.isAgg70 Try.sizeOf70 rfl) (congrArg (fun l => Value.agg ⟨l⟩) YR)) rfl), nM rfl, nM rfl, nM rfl, nB rfl, nQ rfl (by exact qW (zM rfl rfl Try.runUnderlying68 Try.sizeOf70 (Yk.rd (i := 1) rfl) qG.len rfl (Yh.inb Yq)) rfl), nQ rfl (by exact qW (qW (yl rfl (Yk.rd (i := 1) rfl) qG.len (Yh.inb Yq) Try.isAgg70 Try.sizeOf70 rfl) (congrArg (fun l => Value.agg ⟨l⟩) YS)) rfl), nQ rfl (by exact qW (zM rfl rfl Try.runUnderlying68 Try.sizeOf70 (Yk.rd (i := 1) rfl) qG.len rfl (Yh.inb Yq)) rfl), trivial⟩) fun D l a w ho hcl hav hpre hm hE hk hA hst => ?_
   have hS := (Ss.mk hE hst).env2 (e' := [(29, .agg ⟨[.int .i64 ((rd Yb (ql (Yd + Ya))).often_), .slice Yl ((rd Yb (ql (Yd + Ya))).symbols_).length Yn]⟩), (36, zn Ye (Int.toNat (ql (Yc + Ya)) * 2))]) ⟨rfl, rfl, trivial⟩
   refine zr rfl <| vV (i := (ql (Yc + Ya))) (sz := 2) 1 (⟨[.int .i64 ((rd Yb (ql (Yd + Ya))).often_), .slice Yl ((rd Yb (ql (Yd + Ya))).symbols_).length Yn], by simp, by simp [Value.oneCell']⟩ : qG 2) hS rfl rfl Yk rfl Try.sizeOf70 rfl (Yh.inb Yq) fun YF w Y4 hz YA hS => ?_
   obtain ⟨YW, hzm⟩ := yd (Yb.set (Int.toNat (ql (Yc + Ya))) (qb.mk ((rd Yb (ql (Yd + Ya))).often_) ((rd Yb (ql (Yd + Ya))).symbols_)))
   replace hM := qA hzm hM
   have Ys := qD.set (x := (qb.mk ((rd Yb (ql (Yd + Ya))).often_) ((rd Yb (ql (Yd + Ya))).symbols_))) (r := (⟨[.int .i64 ((rd Yb (ql (Yd + Ya))).often_), .slice Yl ((rd Yb (ql (Yd + Ya))).symbols_).length Yn], by simp, by simp [Value.oneCell']⟩ : qG 2)) (Int.toNat (ql (Yc + Ya))) Yh (show qf Yj _ _ from ⟨Yl, Yn, rfl, YO, YM⟩)
   have Yv : YF.length = Yf.length := by rw [hz]; exact List.length_set ..
   rw [← hz, ← hzm] at Ys; clear hz hzm
   have YU := Eq.trans Yv YD
   refine qz ?_
   replace hst := hS.st
   obtain ⟨YB, hM⟩ := qx hM
   obtain ⟨hcl, hmust, hav2, hA⟩ := QV (vals' := [some (.slice Ye Yf.length Yg), some (.int .i64 Yc), some (.int .i64 Ya), some (.int .i64 (ql (Yc + Ya))), some (.slice Ye Yf.length Yg), some (.int .i64 Yd), some (.int .i64 Ya), some (.int .i64 (ql (Yd + Ya))), some (.slice Ye Yf.length Yg), some (.int .i64 Yd), some (.int .i64 Ya), some (.int .i64 (ql (Yd + Ya))), some (zn Ye (Int.toNat (ql (Yd + Ya)) * 2)), some (.agg ⟨[.int .i64 ((rd Yb (ql (Yd + Ya))).often_), .slice Yl ((rd Yb (ql (Yd + Ya))).symbols_).length Yn]⟩), some (.slice Ye Yf.length Yg), some (.int .i64 Yc), some (.int .i64 Ya), some (.int .i64 (ql (Yc + Ya))), some (zn Ye (Int.toNat (ql (Yc + Ya)) * 2)), some (.agg ⟨[.int .i64 ((rd Yb (ql (Yc + Ya))).often_), .slice Ym ((rd Yb (ql (Yc + Ya))).symbols_).length Yo]⟩), some (zn Ye (Int.toNat (ql (Yc + Ya)) * 2)), some undef, some (zn Ye (Int.toNat (ql (Yd + Ya)) * 2)), none]) 21 [(0, 21), (1, 21), (2, 21), (3, 21), (8, 21), (9, 21), (10, 21), (11, 21), (12, 21), (13, 21), (19, 21), (20, 21), (18, 19), (14, 18), (17, 18), (15, 17), (16, 17)] hA hcl hav hm hpre rfl rfl rfl rfl rfl
   clear hm hav
   refine vP hA hst ho hcl hav2 hmust 23 [4, 5, 6, 7, 22] rfl rfl rfl rfl rfl (by exact ⟨nM rfl, nM rfl, nM rfl, nB rfl, nQ rfl (by exact qW (zM (Q4 Yv rfl) rfl Try.runUnderlying68 Try.sizeOf70 (YA.rd (i := 1) rfl) qG.len rfl (Ys.inb YB)) rfl), trivial⟩) fun D l a w ho hcl hav hpre hm hE hk hA hst => ?_
   have hS := (Ss.mk hE hst).env2 (e' := [(35, .agg ⟨[.int .i64 ((rd Yb (ql (Yc + Ya))).often_), .slice Ym ((rd Yb (ql (Yc + Ya))).symbols_).length Yo]⟩), (37, zn Ye (Int.toNat (ql (Yd + Ya)) * 2))]) ⟨rfl, rfl, trivial⟩
   refine zr rfl <| vV (i := (ql (Yd + Ya))) (sz := 2) 1 (⟨[.int .i64 ((rd Yb (ql (Yc + Ya))).often_), .slice Ym ((rd Yb (ql (Yc + Ya))).symbols_).length Yo], by simp, by simp [Value.oneCell']⟩ : qG 2) hS rfl rfl YA rfl Try.sizeOf70 rfl (Ys.inb YB) fun Yw w YY hz YK hS => ?_
   obtain ⟨YX, hzm⟩ := yd (YW.set (Int.toNat (ql (Yd + Ya))) (qb.mk ((rd Yb (ql (Yc + Ya))).often_) ((rd Yb (ql (Yc + Ya))).symbols_)))
   replace hM := qA hzm hM
   have YC := qD.set (x := (qb.mk ((rd Yb (ql (Yc + Ya))).often_) ((rd Yb (ql (Yc + Ya))).symbols_))) (r := (⟨[.int .i64 ((rd Yb (ql (Yc + Ya))).often_), .slice Ym ((rd Yb (ql (Yc + Ya))).symbols_).length Yo], by simp, by simp [Value.oneCell']⟩ : qG 2)) (Int.toNat (ql (Yd + Ya))) Ys (show qf Yj _ _ from ⟨Ym, Yo, rfl, YP, YN⟩)
   have YE : Yw.length = YF.length := by rw [hz]; exact List.length_set ..
   rw [← hz, ← hzm] at YC; clear hz hzm
   have YV := Eq.trans YE YU
   refine qz ?_
   replace hst := hS.st
   obtain ⟨hcl, hmust, hav2, hA⟩ := QV (vals' := [some (.slice Ye Yf.length Yg), some (.int .i64 Yc), some (.int .i64 Ya), some (.int .i64 (ql (Yc + Ya))), some (.slice Ye Yf.length Yg), some (.int .i64 Yd), some (.int .i64 Ya), some (.int .i64 (ql (Yd + Ya))), some (.slice Ye Yf.length Yg), some (.int .i64 Yd), some (.int .i64 Ya), some (.int .i64 (ql (Yd + Ya))), some (zn Ye (Int.toNat (ql (Yd + Ya)) * 2)), some (.agg ⟨[.int .i64 ((rd Yb (ql (Yd + Ya))).often_), .slice Yl ((rd Yb (ql (Yd + Ya))).symbols_).length Yn]⟩), some (.slice Ye Yf.length Yg), some (.int .i64 Yc), some (.int .i64 Ya), some (.int .i64 (ql (Yc + Ya))), some (zn Ye (Int.toNat (ql (Yc + Ya)) * 2)), some (.agg ⟨[.int .i64 ((rd Yb (ql (Yc + Ya))).often_), .slice Ym ((rd Yb (ql (Yc + Ya))).symbols_).length Yo]⟩), some (zn Ye (Int.toNat (ql (Yc + Ya)) * 2)), some undef, some (zn Ye (Int.toNat (ql (Yd + Ya)) * 2)), some undef]) 23 [(0, 23), (1, 23), (2, 23), (3, 23), (4, 23), (5, 23), (6, 23), (7, 23), (8, 23), (9, 23), (10, 23), (11, 23), (12, 23), (13, 23), (14, 23), (15, 23), (16, 23), (17, 23), (18, 23), (19, 23), (20, 23), (21, 23), (22, 23)] hA hcl hav hm hpre rfl rfl rfl rfl rfl
   clear hm hav
   refine x8 hA hst ho hcl hmust [] rfl rfl rfl trivial fun a w hS => ?_
   replace hS := hS.env2 (e' := [(0, .slice Ye Yw.length Yg), (1, .int .i64 Yc), (2, .int .i64 Yd), (3, .int .i64 Yr), (10, .int .i64 Ya)]) ⟨(Qz (u := .slice Ye Yf.length Yg) rfl (by rw [YE, Yv])), rfl, rfl, rfl, rfl, trivial⟩
   refine ze (qh ?_)
   refine zh <| sM hS rfl fun hS => sB hS rfl fun hS => zb (v := Value.int .i64) (x0 := (ql (Ya + (1 : Int)))) hS (zG rfl) rfl fun YZ a w hz hS => ?_
   have hM := qA hz hM; clear hz
   refine qK <| qh ?_
   exact YI _ _ ⟨Yw, YX, YY, YZ, hS.to [0, 1] (by kernel_rfl) ⟨rfl, rfl, rfl, rfl, rfl, trivial⟩, YK, YC, YV, hM⟩
  ·refine wp_exit ?_
   refine qu (qu (qJ ?_))
   exact jH (rs := []) hS rfl rfl (hret Yf Yb Yy _ (qQ hM) Yk Yh YD (hS.st.pick [0, 1] (by kernel_rfl)))
theorem zE (cq : Nat) (hcq : cq = 33 ∨ cq = 41) {H : zB} {F : List qr} {w : World} {R : Ending → World → Prop} {kr : (List qb) → Prop} {kp : Value → Prop} (hG : Gl H) (K : Nat) (Yl : List qb) (Yp : Int) (Ye : Int) (Yq : Int) (Yd : qr) (Ya : Option Addr) (Yb : Nat) (Yg : List (qG 2)) (YC : qr) (YR : qD (qf Yd) Yl Yg) (YN : zJ 70 (qG.v (sz := 2)) 2 Ya Yg Yb YC)
    (hS : St w H [Yd, YC] F) (hm : (qj.m K Yl Yp Ye Yq).wp kr kp)
    (hret : ∀ (Yx : List (qG 2)) (Yn : (List qb)) (YK : qr) (w : World), kr Yn → (zJ 70 (qG.v (sz := 2)) 2 Ya Yx Yb YK) → (qD (qf Yd) Yn Yx) → (Yx.length = Yg.length) → St w H [Yd, YK] F → R (.returned (.tuple ⟨[]⟩)) w) :
    Calls Try.prog 47 ⟨[.slice Ya Yg.length Yb, .int .i64 Yp, .int .i64 Ye, .int .i64 Yq, xE cq [] []]⟩ w R := by
 refine enter Try.func47 rfl Try.ntmps47 rfl hS fun a w hS => ?_
 have hM := hm; clear hm
 rw [qj.m] at hM
 have Ja : ∀ q ∈ Yd, q ∈ Yd := fun _ h => h
 have YT : Yg.length = Yg.length := rfl
 refine qo <| sM hS rfl fun hS => sM hS rfl fun hS => sB hS rfl fun hS => zb (v := Value.int .i64) (x0 := (ql (Ye - Yp))) hS (zG rfl) rfl fun Y6 a w hz hS => ?_
 have hM := qA hz hM; clear hz
 refine qz <| qo <| sM hS rfl fun hS => sM hS rfl fun hS => sB hS rfl fun hS => zb (v := Value.int .i64) (x0 := (ql (Yq - Ye))) hS (zG rfl) rfl fun Y8 a w hz hS => ?_
 have hM := qA hz hM; clear hz
 refine qz <| qR (fun a w => ∃ (Yi : List (qG 2)) (Yj : (List qb)) (Yy : qr) (Yo : Int), Ss 58 [] [(0, .slice Ya Yi.length Yb), (2, .int .i64 Ye), (4, xE cq [] []), (10, .int .i64 Yo)] H [Yd, Yy] F a w ∧ (zJ 70 (qG.v (sz := 2)) 2 Ya Yi Yb Yy) ∧ (qD (qf Yd) Yj Yi) ∧ (Yi.length = Yg.length) ∧ (qj.j2 K Ye Yj Yo).wp kr kp) (fun Jc YM => ?_) ?_
 ·refine zP ?_
  refine qU (fun YL a w => ∃ (Yc : List (qG 2)) (Yf : (List qb)) (Ym : qr) (Yh : Int) (Yk : Int), Ss 58 [] [(0, .slice Ya Yc.length Yb), (2, .int .i64 Ye), (4, xE cq [] []), (10, .int .i64 Yh), (11, .int .i64 Yk)] H [Yd, Ym] F a w ∧ (zJ 70 (qG.v (sz := 2)) 2 Ya Yc Yb Ym) ∧ (qD (qf Yd) Yf Yc) ∧ (Yc.length = Yg.length) ∧ (qj.l1 K Ye YL Yf Yh Yk).wp kr kp) K ?_ ?_ ?_
  ·exact ⟨Yg, Yl, YC, Y6, Y8, hS.to [0, 1] (by kernel_rfl) ⟨rfl, rfl, rfl, rfl, rfl, trivial⟩, YN, YR, YT, hM⟩
  ·intro a w hI; obtain ⟨_, _, _, _, _, _, _, _, _, hM⟩ := hI; exact qS hM
  ·intro YL a w hI Jb YG
   obtain ⟨Yc, Yf, Ym, Yh, Yk, hS, Yr, Ys, Yt, hM⟩ := hI
   rw [qj.l1] at hM
   refine wp_seq <| qo <| sM hS rfl fun hS => sM hS rfl fun hS => sB hS rfl fun hS => qz <| qv hS rfl hM (fun YP hM => ?_) (fun YP hM => ?_)
   ·refine wp_skip ?_
    refine qh <| zP <| qo <| sM hS rfl fun hS => sM hS rfl fun hS => sB hS rfl fun hS => qz <| qv hS rfl hM (fun YQ hM => ?_) (fun YQ hM => ?_)
    ·refine wp_seq ?_
     refine zh <| sM hS rfl fun hS => sM hS rfl fun hS => sM hS rfl fun hS => sB hS rfl fun hS => sM hS rfl fun hS => sM hS rfl fun hS => sM hS rfl fun hS => qT hS rfl Try.call48 (q7 cq hcq hG K Yf (ql (Ye - Yh)) Ye Yk Yd Ya Yb Yc Ym Ys Yr (hS.st.part 2 [0, 1] (by kernel_rfl)) (qE hM) (fun Yu Yz YH w hM YY YZ YD hst => qP hS.ev hst.appF rfl fun hS => ?_))
     replace hS : Ss _ _ _ H [Yd, YH] F _ _ := hS
     have YU := Eq.trans YD Yt
     replace hS := hS.re 0 (u := .slice Ya Yc.length Yb) (v := .slice Ya Yu.length Yb) rfl (by rw [YD])
     replace hS := hS.re 24 (u := .slice Ya Yc.length Yb) (v := .slice Ya Yu.length Yb) rfl (by rw [YD])
     refine qz <| zh <| sM hS rfl fun hS => sM hS rfl fun hS => sB hS rfl fun hS => zb (v := Value.int .i64) (x0 := (ql (Yh - Yk))) hS (zG rfl) rfl fun Y7 a w hz hS => ?_
     have hM := qA hz hM; clear hz
     refine qK <| ze (qh ?_)
     exact YG _ _ ⟨Yu, Yz, YH, Y7, Yk, hS.to [0, 1] (by kernel_rfl) ⟨rfl, rfl, rfl, rfl, rfl, trivial⟩, YY, YZ, YU, hM⟩
    ·refine wp_seq ?_
     refine zh <| sM hS rfl fun hS => sM hS rfl fun hS => sM hS rfl fun hS => sB hS rfl fun hS => sM hS rfl fun hS => sM hS rfl fun hS => sB hS rfl fun hS => sM hS rfl fun hS => sB hS rfl fun hS => sM hS rfl fun hS => sM hS rfl fun hS => qT hS rfl Try.call48 (q7 cq hcq hG K Yf (ql (Ye - Yh)) (ql ((ql (Ye + Yk)) - Yh)) Yh Yd Ya Yb Yc Ym Ys Yr (hS.st.part 2 [0, 1] (by kernel_rfl)) (qE hM) (fun Yv YA YI w hM Y0 Y3 YE hst => qP hS.ev hst.appF rfl fun hS => ?_))
     replace hS : Ss _ _ _ H [Yd, YI] F _ _ := hS
     have YV := Eq.trans YE Yt
     replace hS := hS.re 0 (u := .slice Ya Yc.length Yb) (v := .slice Ya Yv.length Yb) rfl (by rw [YE])
     replace hS := hS.re 35 (u := .slice Ya Yc.length Yb) (v := .slice Ya Yv.length Yb) rfl (by rw [YE])
     refine qz <| zh <| sM hS rfl fun hS => sM hS rfl fun hS => sB hS rfl fun hS => zb (v := Value.int .i64) (x0 := (ql (Yk - Yh))) hS (zG rfl) rfl fun Y9 a w hz hS => ?_
     have hM := qA hz hM; clear hz
     refine qK <| ze (qh ?_)
     exact YG _ _ ⟨Yv, YA, YI, Yh, Y9, hS.to [0, 1] (by kernel_rfl) ⟨rfl, rfl, rfl, rfl, rfl, trivial⟩, Y0, Y3, YV, hM⟩
   ·refine wp_exit ?_
    refine qu (qu (qJ (qh ?_)))
    exact YM _ _ ⟨Yc, Yf, Ym, Yh, hS.to [0, 1] (by kernel_rfl) ⟨rfl, rfl, rfl, rfl, trivial⟩, Yr, Ys, Yt, hM⟩
 ·intro a w hI
  obtain ⟨Yi, Yj, Yy, Yo, hS, YO, YS, YW, hM⟩ := hI
  rw [qj.j2] at hM
  refine zh <| sM hS rfl fun hS => sM hS rfl fun hS => sM hS rfl fun hS => sB hS rfl fun hS => sM hS rfl fun hS => sM hS rfl fun hS => sM hS rfl fun hS => qT hS rfl Try.call48 (q7 cq hcq hG K Yj (ql (Ye - Yo)) Ye Yo Yd Ya Yb Yi Yy YS YO (hS.st.part 2 [0, 1] (by kernel_rfl)) (qE hM) (fun Yw YB YJ w hM Y4 Y5 YF hst => qP hS.ev hst.appF rfl fun hS => ?_))
  replace hS : Ss _ _ _ H [Yd, YJ] F _ _ := hS
  have YX := Eq.trans YF YW
  replace hS := hS.re 0 (u := .slice Ya Yi.length Yb) (v := .slice Ya Yw.length Yb) rfl (by rw [YF])
  replace hS := hS.re 50 (u := .slice Ya Yi.length Yb) (v := .slice Ya Yw.length Yb) rfl (by rw [YF])
  refine qK ?_
  exact jH (rs := []) hS rfl rfl (hret Yw YB YJ _ (qQ hM) Y4 Y5 YX (hS.st.pick [0, 1] (by kernel_rfl)))
theorem zz (cq : Nat) (hcq : cq = 33 ∨ cq = 41) (K : Nat) : ∀ (d : Nat) {H : zB} {F : List qr} {w : World} {R : Ending → World → Prop} {kr : (List qb) → Prop} {kp : Value → Prop} (hG : Gl H) (Ya : List qb) (Yi : Int) (Yj : Int) (Ym : Int) (Yl : qr) (Yb : Option Addr) (Ye : Nat) (Yh : List (qG 2)) (Yt : qr) (Yn : qD (qf Yl) Ya Yh) (Ys : zJ 70 (qG.v (sz := 2)) 2 Yb Yh Ye Yt)
    (hS : St w H [Yl, Yt] F) (hm : (qa.r K d Ya Yi Yj Ym).wp kr kp)
    (hret : ∀ (Jn : List (qG 2)) (Y5 : (List qb)) (Vf : qr) (w : World), kr Y5 → (zJ 70 (qG.v (sz := 2)) 2 Yb Jn Ye Vf) → (qD (qf Yl) Y5 Jn) → (Jn.length = Yh.length) → St w H [Yl, Vf] F → R (.returned (.tuple ⟨[]⟩)) w),
    Calls Try.prog 44 ⟨[.slice Yb Yh.length Ye, .int .i64 Yi, .int .i64 Yj, .int .i64 Ym, xE cq [] []]⟩ w R := by
  intro d
  induction d with
  | zero => intro H F w R kr kp hG Ya Yi Yj Ym Yl Yb Ye Yh Yt Yn Ys hS hm hret; exact (qS hm).elim
  | succ d ih =>
  intro H F w R kr kp hG Ya Yi Yj Ym Yl Yb Ye Yh Yt Yn Ys hS hm hret
  have hM := hm; clear hm
  rw [qa.r] at hM; rw [qa.b] at hM
  refine enter Try.func44 rfl Try.ntmps44 rfl hS fun a w hS => ?_
  have Uz : ∀ q ∈ Yl, q ∈ Yl := fun _ h => h
  have Y4 : Yh.length = Yh.length := rfl
  refine qR (fun a w => Ss 220 [] [(0, .slice Yb Yh.length Ye), (1, .int .i64 Yi), (2, .int .i64 Yj), (3, .int .i64 Ym), (4, xE cq [] [])] H [Yl, Yt] F a w ∧ (qa.j4 K (qa.r K d) Ya Yi Yj Ym).wp kr kp) (fun UD Vn => ?_) ?_
  ·refine wp_seq ?_
   refine zh <| sM hS rfl fun hS => sM hS rfl fun hS => sB hS rfl fun hS => sB hS rfl fun hS => qz <| qv hS rfl hM (fun Vu hM => ?_) (fun Vu hM => ?_)
   ·refine wp_seq ?_
    refine zh <| sM hS rfl fun hS => sA hS rfl fun hS => qz <| qo <| sM hS rfl fun hS => sA hS rfl fun hS => qz <| qR (fun a w => ∃ (YV : Int), Ss 220 [] [(0, .slice Yb Yh.length Ye), (1, .int .i64 Yi), (10, .int .i64 YV)] H [Yl, Yt] F a w ∧ (qa.j2 K (qa.r K d) Ya Yi YV).wp kr kp) (fun UB Vl => ?_) ?_
    ·refine zP ?_
     refine qU (fun Vg a w => ∃ (YT : Int) (YX : Int), Ss 220 [] [(0, .slice Yb Yh.length Ye), (1, .int .i64 Yi), (4, xE cq [] []), (10, .int .i64 YT), (11, .int .i64 YX)] H [Yl, Yt] F a w ∧ (qa.l1 K (qa.r K d) Ya Yi Vg YT YX).wp kr kp) K ?_ ?_ ?_
     ·exact ⟨Yj, Ym, hS.to [0, 1] (by kernel_rfl) ⟨rfl, rfl, rfl, rfl, rfl, trivial⟩, hM⟩
     ·intro a w hI; obtain ⟨_, _, _, hM⟩ := hI; exact qS hM
     ·intro Vg a w hI UA JN
      obtain ⟨YT, YX, hS, hM⟩ := hI
      rw [qa.l1] at hM
      refine wp_seq <| qo <| sM hS rfl fun hS => sM hS rfl fun hS => sB hS rfl fun hS => qz <| qv hS rfl hM (fun Vv hM => ?_) (fun Vv hM => ?_)
      ·refine wp_skip ?_
       refine qh <| zP <| qo <| sM hS rfl fun hS => sM hS rfl fun hS => sB hS rfl fun hS => sO hS (v7 rfl Try.runUnderlying3 Try.runUnderlying46) rfl fun hS => sO hS (shr rfl rfl rfl) rfl fun hS => sO hS (v7 rfl Try.runUnderlying46 Try.runUnderlying3) rfl fun hS => zb (v := Value.int .i64) (x0 := (wr .i64 (yk .u64 (wr .u64 (ql (YT + YX))) (1 : Int)))) hS (zG rfl) rfl fun Yx a w hz hS => ?_
       have hM := qA hz hM; clear hz
       refine qz <| wp_seq ?_
       obtain ⟨Y8, hM⟩ := qx hM
       obtain ⟨Jo, Ju, V2, VS, VI⟩ := Yn.get Y8
       obtain ⟨Y9, hM⟩ := qx hM
       obtain ⟨Jp, Jv, V3, VT, VJ⟩ := Yn.get Y9
       refine zc (vals := [some (xE cq [] []), some (.slice Yb Yh.length Ye), some (.int .i64 Yx), some (zn Yb (Int.toNat Yx * 2)), some (.agg ⟨[.int .i64 ((rd Ya Yx).often_), .slice Jo ((rd Ya Yx).symbols_).length Ju]⟩), some (.slice Yb Yh.length Ye), some (.int .i64 Yi), some (zn Yb (Int.toNat Yi * 2)), some (.agg ⟨[.int .i64 ((rd Ya Yi).often_), .slice Jp ((rd Ya Yi).symbols_).length Jv]⟩), none, none]) hS xc rfl ?_
       intro l w ho hcl hA hst
       refine vP hA hst ho hcl xS xe 9 [0, 1, 2, 3, 4, 5, 6, 7, 8] rfl rfl rfl rfl rfl (by exact ⟨nM rfl, nM rfl, nM rfl, nQ rfl (by exact qW (zM rfl rfl Try.runUnderlying68 Try.sizeOf70 (Ys.rd (i := 1) rfl) qG.len rfl (Yn.inb Y8)) rfl), nQ rfl (by exact qW (qW (yl rfl (Ys.rd (i := 1) rfl) qG.len (Yn.inb Y8) Try.isAgg70 Try.sizeOf70 rfl) (congrArg (fun l => Value.agg ⟨l⟩) V2)) rfl), nM rfl, nM rfl, nQ rfl (by exact qW (zM rfl rfl Try.runUnderlying68 Try.sizeOf70 (Ys.rd (i := 1) rfl) qG.len rfl (Yn.inb Y9)) rfl), nQ rfl (by exact qW (qW (yl rfl (Ys.rd (i := 1) rfl) qG.len (Yn.inb Y9) Try.isAgg70 Try.sizeOf70 rfl) (congrArg (fun l => Value.agg ⟨l⟩) V3)) rfl), trivial⟩) fun D l a w ho hcl hav hpre hm hE hk hA hst => ?_
       have hS := (Ss.mk hE hst).env2 (e' := [(40, xE cq [] []), (44, .agg ⟨[.int .i64 ((rd Ya Yx).often_), .slice Jo ((rd Ya Yx).symbols_).length Ju]⟩), (48, .agg ⟨[.int .i64 ((rd Ya Yi).often_), .slice Jp ((rd Ya Yi).symbols_).length Jv]⟩)]) ⟨rfl, rfl, rfl, trivial⟩
       refine zr rfl <| yU hS rfl rfl (yJ hcq) (jk cq hcq hG K (qb.mk ((rd Ya Yx).often_) ((rd Ya Yx).symbols_)) (qb.mk ((rd Ya Yi).often_) ((rd Ya Yi).symbols_)) Jo Ju Jp Jv (VS.rdF (i := 0) rfl) VI (VT.rdF (i := 0) rfl) VJ (hS.st.part 0 [0, 1] (by kernel_rfl)) (qE hM) (fun Vb w hM  hst => qP hS.ev hst.appF rfl fun hS => ?_))
       replace hS : Ss _ _ _ H [Yl, Yt] F _ _ := hS
       refine qz ?_
       replace hst := hS.st
       obtain ⟨hcl, hmust, hav2, hA⟩ := dn (vals' := [some (xE cq [] []), some (.slice Yb Yh.length Ye), some (.int .i64 Yx), some (zn Yb (Int.toNat Yx * 2)), some (.agg ⟨[.int .i64 ((rd Ya Yx).often_), .slice Jo ((rd Ya Yx).symbols_).length Ju]⟩), some (.slice Yb Yh.length Ye), some (.int .i64 Yi), some (zn Yb (Int.toNat Yi * 2)), some (.agg ⟨[.int .i64 ((rd Ya Yi).often_), .slice Jp ((rd Ya Yi).symbols_).length Jv]⟩), some (.int .i64 Vb), some (.bool (decide (Vb < (0 : Int))))]) 9 [(0, 9), (4, 9), (8, 9), (3, 4), (7, 8), (1, 3), (2, 3), (5, 7), (6, 7)] hA hcl hav hm hpre hk rfl rfl rfl rfl rfl rfl rfl
       clear hm hav
       refine x8 hA hst ho hcl hmust [10] rfl rfl rfl (by exact ⟨nB rfl, trivial⟩) fun a w hS => ?_
       replace hS := hS.env2 (e' := [(0, .slice Yb Yh.length Ye), (1, .int .i64 Yi), (4, xE cq [] []), (10, .int .i64 YT), (11, .int .i64 YX), (12, .int .i64 Yx), (50, .bool (decide (Vb < (0 : Int))))]) ⟨rfl, rfl, rfl, rfl, rfl, rfl, rfl, trivial⟩
       refine qh <| qv hS rfl hM (fun Vw hM => ?_) (fun Vw hM => ?_)
       ·refine zh ?_
        refine sM hS rfl fun hS => sB hS rfl fun hS => zb (v := Value.int .i64) (x0 := (ql (Yx + (1 : Int)))) hS (zG rfl) rfl fun Ux a w hz hS => ?_
        have hM := qA hz hM; clear hz
        refine qK <| ze (qh ?_)
        exact JN _ _ ⟨Ux, YX, hS.to [0, 1] (by kernel_rfl) ⟨rfl, rfl, rfl, rfl, rfl, trivial⟩, hM⟩
       ·refine zh ?_
        refine sM hS rfl fun hS => sA hS rfl fun hS => qK <| ze (qh ?_)
        exact JN _ _ ⟨YT, Yx, hS.to [0, 1] (by kernel_rfl) ⟨rfl, rfl, rfl, rfl, rfl, trivial⟩, hM⟩
      ·refine wp_exit ?_
       refine qu (qu (qJ (qh ?_)))
       exact Vl _ _ ⟨YT, hS.to [0, 1] (by kernel_rfl) ⟨rfl, rfl, rfl, trivial⟩, hM⟩
    ·intro a w hI
     obtain ⟨YV, hS, hM⟩ := hI
     rw [qa.j2] at hM
     refine wp_seq <| qo <| sM hS rfl fun hS => sA hS rfl fun hS => qz <| zP <| qU (fun Vh a w => ∃ (Yp : List (qG 2)) (Yf : (List qb)) (JA : qr) (Yc : Int), Ss 220 [] [(0, .slice Yb Yp.length Ye), (10, .int .i64 YV), (13, .int .i64 Yc)] H [Yl, JA] F a w ∧ (zJ 70 (qG.v (sz := 2)) 2 Yb Yp Ye JA) ∧ (qD (qf Yl) Yf Yp) ∧ (Yp.length = Yh.length) ∧ (qa.l3 K (qa.r K d) YV Vh Yf Yc).wp kr kp) K ?_ ?_ ?_
     ·exact ⟨Yh, Ya, Yt, Yi, hS.to [0, 1] (by kernel_rfl) ⟨rfl, rfl, rfl, trivial⟩, Ys, Yn, Y4, hM⟩
     ·intro a w hI; obtain ⟨_, _, _, _, _, _, _, _, hM⟩ := hI; exact qS hM
     ·intro Vh a w hI UC Vm
      obtain ⟨Yp, Yf, JA, Yc, hS, YH, Yz, J3, hM⟩ := hI
      rw [qa.l3] at hM
      refine wp_seq <| qo <| sM hS rfl fun hS => sM hS rfl fun hS => sB hS rfl fun hS => sB hS rfl fun hS => qz <| qv hS rfl hM (fun Vx hM => ?_) (fun Vx hM => ?_)
      ·refine wp_skip ?_
       refine qh <| wp_seq <| zP ?_
       obtain ⟨Ja, hM⟩ := qx hM
       obtain ⟨YJ, YN, V4, VU, VK⟩ := Yz.get Ja
       obtain ⟨YR, hM⟩ := qx hM
       obtain ⟨YK, YO, V5, VV, VL⟩ := Yz.get YR
       refine zc (vals := [some (.slice Yb Yp.length Ye), some (.int .i64 Yc), some (.slice Yb Yp.length Ye), some (.int .i64 Yc), some (.int .i64 (ql (Yc + (1 : Int)))), some (.slice Yb Yp.length Ye), some (.int .i64 Yc), some (.int .i64 (ql (Yc + (1 : Int)))), some (zn Yb (Int.toNat (ql (Yc + (1 : Int))) * 2)), some (.agg ⟨[.int .i64 ((rd Yf (ql (Yc + (1 : Int)))).often_), .slice YJ ((rd Yf (ql (Yc + (1 : Int)))).symbols_).length YN]⟩), some (.slice Yb Yp.length Ye), some (.int .i64 Yc), some (zn Yb (Int.toNat Yc * 2)), some (.agg ⟨[.int .i64 ((rd Yf Yc).often_), .slice YK ((rd Yf Yc).symbols_).length YO]⟩), some (zn Yb (Int.toNat Yc * 2)), none, none, none]) hS xc rfl ?_
       intro l w ho hcl hA hst
       refine vP hA hst ho hcl xS xe 15 [0, 1, 2, 3, 4, 5, 6, 7, 8, 9, 10, 11, 12, 13, 14] rfl rfl rfl rfl rfl (by exact ⟨nM rfl, nM rfl, nM rfl, nM rfl, nB rfl, nM rfl, nM rfl, nB rfl, nQ rfl (by exact qW (zM rfl rfl Try.runUnderlying68 Try.sizeOf70 (YH.rd (i := 1) rfl) qG.len rfl (Yz.inb Ja)) rfl), nQ rfl (by exact qW (qW (yl rfl (YH.rd (i := 1) rfl) qG.len (Yz.inb Ja) Try.isAgg70 Try.sizeOf70 rfl) (congrArg (fun l => Value.agg ⟨l⟩) V4)) rfl), nM rfl, nM rfl, nQ rfl (by exact qW (zM rfl rfl Try.runUnderlying68 Try.sizeOf70 (YH.rd (i := 1) rfl) qG.len rfl (Yz.inb YR)) rfl), nQ rfl (by exact qW (qW (yl rfl (YH.rd (i := 1) rfl) qG.len (Yz.inb YR) Try.isAgg70 Try.sizeOf70 rfl) (congrArg (fun l => Value.agg ⟨l⟩) V5)) rfl), nQ rfl (by exact qW (zM rfl rfl Try.runUnderlying68 Try.sizeOf70 (YH.rd (i := 1) rfl) qG.len rfl (Yz.inb YR)) rfl), trivial⟩) fun D l a w ho hcl hav hpre hm hE hk hA hst => ?_
       have hS := (Ss.mk hE hst).env2 (e' := [(70, .agg ⟨[.int .i64 ((rd Yf (ql (Yc + (1 : Int)))).often_), .slice YJ ((rd Yf (ql (Yc + (1 : Int)))).symbols_).length YN]⟩), (75, zn Yb (Int.toNat Yc * 2))]) ⟨rfl, rfl, trivial⟩
       refine zr rfl <| vV (i := Yc) (sz := 2) 1 (⟨[.int .i64 ((rd Yf (ql (Yc + (1 : Int)))).often_), .slice YJ ((rd Yf (ql (Yc + (1 : Int)))).symbols_).length YN], by simp, by simp [Value.oneCell']⟩ : qG 2) hS rfl rfl YH rfl Try.sizeOf70 rfl (Yz.inb YR) fun J9 w UN hz JT hS => ?_
       obtain ⟨Ul, hzm⟩ := yd (Yf.set (Int.toNat Yc) (qb.mk ((rd Yf (ql (Yc + (1 : Int)))).often_) ((rd Yf (ql (Yc + (1 : Int)))).symbols_)))
       replace hM := qA hzm hM
       have Y0 := qD.set (x := (qb.mk ((rd Yf (ql (Yc + (1 : Int)))).often_) ((rd Yf (ql (Yc + (1 : Int)))).symbols_))) (r := (⟨[.int .i64 ((rd Yf (ql (Yc + (1 : Int)))).often_), .slice YJ ((rd Yf (ql (Yc + (1 : Int)))).symbols_).length YN], by simp, by simp [Value.oneCell']⟩ : qG 2)) (Int.toNat Yc) Yz (show qf Yl _ _ from ⟨YJ, YN, rfl, VU, VK⟩)
       have Jg : J9.length = Yp.length := by rw [hz]; exact List.length_set ..
       rw [← hz, ← hzm] at Y0; clear hz hzm
       have Uc := Eq.trans Jg J3
       refine qz ?_
       replace hst := hS.st
       obtain ⟨JX, hM⟩ := qx hM
       obtain ⟨hcl, hmust, hav2, hA⟩ := QV (vals' := [some (.slice Yb Yp.length Ye), some (.int .i64 Yc), some (.slice Yb Yp.length Ye), some (.int .i64 Yc), some (.int .i64 (ql (Yc + (1 : Int)))), some (.slice Yb Yp.length Ye), some (.int .i64 Yc), some (.int .i64 (ql (Yc + (1 : Int)))), some (zn Yb (Int.toNat (ql (Yc + (1 : Int))) * 2)), some (.agg ⟨[.int .i64 ((rd Yf (ql (Yc + (1 : Int)))).often_), .slice YJ ((rd Yf (ql (Yc + (1 : Int)))).symbols_).length YN]⟩), some (.slice Yb Yp.length Ye), some (.int .i64 Yc), some (zn Yb (Int.toNat Yc * 2)), some (.agg ⟨[.int .i64 ((rd Yf Yc).often_), .slice YK ((rd Yf Yc).symbols_).length YO]⟩), some (zn Yb (Int.toNat Yc * 2)), some undef, some (zn Yb (Int.toNat (ql (Yc + (1 : Int))) * 2)), none]) 15 [(0, 15), (1, 15), (5, 15), (6, 15), (7, 15), (8, 15), (9, 15), (13, 15), (14, 15), (12, 13), (10, 12), (11, 12)] hA hcl hav hm hpre rfl rfl rfl rfl rfl
       clear hm hav
       refine vP hA hst ho hcl hav2 hmust 17 [2, 3, 4, 16] rfl rfl rfl rfl rfl (by exact ⟨nM rfl, nM rfl, nB rfl, nQ rfl (by exact qW (zM (Q4 Jg rfl) rfl Try.runUnderlying68 Try.sizeOf70 (JT.rd (i := 1) rfl) qG.len rfl (Y0.inb JX)) rfl), trivial⟩) fun D l a w ho hcl hav hpre hm hE hk hA hst => ?_
       have hS := (Ss.mk hE hst).env2 (e' := [(74, .agg ⟨[.int .i64 ((rd Yf Yc).often_), .slice YK ((rd Yf Yc).symbols_).length YO]⟩), (76, zn Yb (Int.toNat (ql (Yc + (1 : Int))) * 2))]) ⟨rfl, rfl, trivial⟩
       refine zr rfl <| vV (i := (ql (Yc + (1 : Int)))) (sz := 2) 1 (⟨[.int .i64 ((rd Yf Yc).often_), .slice YK ((rd Yf Yc).symbols_).length YO], by simp, by simp [Value.oneCell']⟩ : qG 2) hS rfl rfl JT rfl Try.sizeOf70 rfl (Y0.inb JX) fun Ji w Up hz Vs hS => ?_
       obtain ⟨Um, hzm⟩ := yd (Ul.set (Int.toNat (ql (Yc + (1 : Int)))) (qb.mk ((rd Yf Yc).often_) ((rd Yf Yc).symbols_)))
       replace hM := qA hzm hM
       have JZ := qD.set (x := (qb.mk ((rd Yf Yc).often_) ((rd Yf Yc).symbols_))) (r := (⟨[.int .i64 ((rd Yf Yc).often_), .slice YK ((rd Yf Yc).symbols_).length YO], by simp, by simp [Value.oneCell']⟩ : qG 2)) (Int.toNat (ql (Yc + (1 : Int)))) Y0 (show qf Yl _ _ from ⟨YK, YO, rfl, VV, VL⟩)
       have J4 : Ji.length = J9.length := by rw [hz]; exact List.length_set ..
       rw [← hz, ← hzm] at JZ; clear hz hzm
       have Ud := Eq.trans J4 Uc
       refine qz ?_
       replace hst := hS.st
       obtain ⟨hcl, hmust, hav2, hA⟩ := QV (vals' := [some (.slice Yb Yp.length Ye), some (.int .i64 Yc), some (.slice Yb Yp.length Ye), some (.int .i64 Yc), some (.int .i64 (ql (Yc + (1 : Int)))), some (.slice Yb Yp.length Ye), some (.int .i64 Yc), some (.int .i64 (ql (Yc + (1 : Int)))), some (zn Yb (Int.toNat (ql (Yc + (1 : Int))) * 2)), some (.agg ⟨[.int .i64 ((rd Yf (ql (Yc + (1 : Int)))).often_), .slice YJ ((rd Yf (ql (Yc + (1 : Int)))).symbols_).length YN]⟩), some (.slice Yb Yp.length Ye), some (.int .i64 Yc), some (zn Yb (Int.toNat Yc * 2)), some (.agg ⟨[.int .i64 ((rd Yf Yc).often_), .slice YK ((rd Yf Yc).symbols_).length YO]⟩), some (zn Yb (Int.toNat Yc * 2)), some undef, some (zn Yb (Int.toNat (ql (Yc + (1 : Int))) * 2)), some undef]) 17 [(0, 17), (1, 17), (2, 17), (3, 17), (4, 17), (5, 17), (6, 17), (7, 17), (8, 17), (9, 17), (10, 17), (11, 17), (12, 17), (13, 17), (14, 17), (15, 17), (16, 17)] hA hcl hav hm hpre rfl rfl rfl rfl rfl
       clear hm hav
       refine x8 hA hst ho hcl hmust [] rfl rfl rfl trivial fun a w hS => ?_
       replace hS := hS.env2 (e' := [(0, .slice Yb Ji.length Ye), (10, .int .i64 YV), (13, .int .i64 Yc)]) ⟨(Qz (u := .slice Yb Yp.length Ye) rfl (by rw [J4, Jg])), rfl, rfl, trivial⟩
       refine ze (qh ?_)
       refine zh <| sM hS rfl fun hS => sB hS rfl fun hS => zb (v := Value.int .i64) (x0 := (ql (Yc + (1 : Int)))) hS (zG rfl) rfl fun Uj a w hz hS => ?_
       have hM := qA hz hM; clear hz
       refine qK <| qh ?_
       exact Vm _ _ ⟨Ji, Um, Up, Uj, hS.to [0, 1] (by kernel_rfl) ⟨rfl, rfl, rfl, trivial⟩, Vs, JZ, Ud, hM⟩
      ·refine wp_exit ?_
       refine qu (qu (qJ (qh ?_)))
       refine wp_ret <| qy ?_
       exact qZ (rs := []) hS rfl rfl (hret Yp Yf JA _ (qQ hM) YH Yz J3 (hS.st.pick [0, 1] (by kernel_rfl)))
   ·refine wp_skip ?_
    refine qh ?_
    exact Vn _ _ ⟨hS.to [0, 1] (by kernel_rfl) ⟨rfl, rfl, rfl, rfl, rfl, trivial⟩, hM⟩
  ·intro a w hI
   obtain ⟨hS, hM⟩ := hI
   rw [qa.j4] at hM
   refine qR (fun a w => Ss 220 [] [(0, .slice Yb Yh.length Ye), (1, .int .i64 Yi), (2, .int .i64 Yj), (3, .int .i64 Ym), (4, xE cq [] [])] H [Yl, Yt] F a w ∧ (qa.j8 K (qa.r K d) Ya Yi Yj Ym).wp kr kp) (fun UH Vq => ?_) ?_
   ·refine wp_seq ?_
    refine zh <| sM hS rfl fun hS => sM hS rfl fun hS => sB hS rfl fun hS => sB hS rfl fun hS => qz <| qv hS rfl hM (fun Vy hM => ?_) (fun Vy hM => ?_)
    ·refine wp_seq ?_
     refine zh <| sM hS rfl fun hS => sA hS rfl fun hS => qz <| qo <| sM hS rfl fun hS => sA hS rfl fun hS => qz <| qR (fun a w => ∃ (YW : Int), Ss 220 [] [(0, .slice Yb Yh.length Ye), (2, .int .i64 Yj), (14, .int .i64 YW)] H [Yl, Yt] F a w ∧ (qa.j6 K (qa.r K d) Ya Yj YW).wp kr kp) (fun UF Vo => ?_) ?_
     ·refine zP ?_
      refine qU (fun Vi a w => ∃ (YU : Int) (YY : Int), Ss 220 [] [(0, .slice Yb Yh.length Ye), (2, .int .i64 Yj), (4, xE cq [] []), (14, .int .i64 YU), (15, .int .i64 YY)] H [Yl, Yt] F a w ∧ (qa.l5 K (qa.r K d) Ya Yj Vi YU YY).wp kr kp) K ?_ ?_ ?_
      ·exact ⟨Yi, Yj, hS.to [0, 1] (by kernel_rfl) ⟨rfl, rfl, rfl, rfl, rfl, trivial⟩, hM⟩
      ·intro a w hI; obtain ⟨_, _, _, hM⟩ := hI; exact qS hM
      ·intro Vi a w hI UE JO
       obtain ⟨YU, YY, hS, hM⟩ := hI
       rw [qa.l5] at hM
       refine wp_seq <| qo <| sM hS rfl fun hS => sM hS rfl fun hS => sB hS rfl fun hS => qz <| qv hS rfl hM (fun Vz hM => ?_) (fun Vz hM => ?_)
       ·refine wp_skip ?_
        refine qh <| zP <| qo <| sM hS rfl fun hS => sM hS rfl fun hS => sB hS rfl fun hS => sO hS (v7 rfl Try.runUnderlying3 Try.runUnderlying46) rfl fun hS => sO hS (shr rfl rfl rfl) rfl fun hS => sO hS (v7 rfl Try.runUnderlying46 Try.runUnderlying3) rfl fun hS => zb (v := Value.int .i64) (x0 := (wr .i64 (yk .u64 (wr .u64 (ql (YU + YY))) (1 : Int)))) hS (zG rfl) rfl fun Yy a w hz hS => ?_
        have hM := qA hz hM; clear hz
        refine qz <| wp_seq ?_
        obtain ⟨Jb, hM⟩ := qx hM
        obtain ⟨Jq, Jw, V6, VW, VM⟩ := Yn.get Jb
        obtain ⟨Jc, hM⟩ := qx hM
        obtain ⟨Jr, Jx, V7, VX, VN⟩ := Yn.get Jc
        refine zc (vals := [some (xE cq [] []), some (.slice Yb Yh.length Ye), some (.int .i64 Yj), some (zn Yb (Int.toNat Yj * 2)), some (.agg ⟨[.int .i64 ((rd Ya Yj).often_), .slice Jq ((rd Ya Yj).symbols_).length Jw]⟩), some (.slice Yb Yh.length Ye), some (.int .i64 Yy), some (zn Yb (Int.toNat Yy * 2)), some (.agg ⟨[.int .i64 ((rd Ya Yy).often_), .slice Jr ((rd Ya Yy).symbols_).length Jx]⟩), none, none, none]) hS xc rfl ?_
        intro l w ho hcl hA hst
        refine vP hA hst ho hcl xS xe 9 [0, 1, 2, 3, 4, 5, 6, 7, 8] rfl rfl rfl rfl rfl (by exact ⟨nM rfl, nM rfl, nM rfl, nQ rfl (by exact qW (zM rfl rfl Try.runUnderlying68 Try.sizeOf70 (Ys.rd (i := 1) rfl) qG.len rfl (Yn.inb Jb)) rfl), nQ rfl (by exact qW (qW (yl rfl (Ys.rd (i := 1) rfl) qG.len (Yn.inb Jb) Try.isAgg70 Try.sizeOf70 rfl) (congrArg (fun l => Value.agg ⟨l⟩) V6)) rfl), nM rfl, nM rfl, nQ rfl (by exact qW (zM rfl rfl Try.runUnderlying68 Try.sizeOf70 (Ys.rd (i := 1) rfl) qG.len rfl (Yn.inb Jc)) rfl), nQ rfl (by exact qW (qW (yl rfl (Ys.rd (i := 1) rfl) qG.len (Yn.inb Jc) Try.isAgg70 Try.sizeOf70 rfl) (congrArg (fun l => Value.agg ⟨l⟩) V7)) rfl), trivial⟩) fun D l a w ho hcl hav hpre hm hE hk hA hst => ?_
        have hS := (Ss.mk hE hst).env2 (e' := [(92, xE cq [] []), (96, .agg ⟨[.int .i64 ((rd Ya Yj).often_), .slice Jq ((rd Ya Yj).symbols_).length Jw]⟩), (100, .agg ⟨[.int .i64 ((rd Ya Yy).often_), .slice Jr ((rd Ya Yy).symbols_).length Jx]⟩)]) ⟨rfl, rfl, rfl, trivial⟩
        refine zr rfl <| yU hS rfl rfl (yJ hcq) (jk cq hcq hG K (qb.mk ((rd Ya Yj).often_) ((rd Ya Yj).symbols_)) (qb.mk ((rd Ya Yy).often_) ((rd Ya Yy).symbols_)) Jq Jw Jr Jx (VW.rdF (i := 0) rfl) VM (VX.rdF (i := 0) rfl) VN (hS.st.part 0 [0, 1] (by kernel_rfl)) (qE hM) (fun JD w hM  hst => qP hS.ev hst.appF rfl fun hS => ?_))
        replace hS : Ss _ _ _ H [Yl, Yt] F _ _ := hS
        refine qz ?_
        replace hst := hS.st
        obtain ⟨hcl, hmust, hav2, hA⟩ := dn (vals' := [some (xE cq [] []), some (.slice Yb Yh.length Ye), some (.int .i64 Yj), some (zn Yb (Int.toNat Yj * 2)), some (.agg ⟨[.int .i64 ((rd Ya Yj).often_), .slice Jq ((rd Ya Yj).symbols_).length Jw]⟩), some (.slice Yb Yh.length Ye), some (.int .i64 Yy), some (zn Yb (Int.toNat Yy * 2)), some (.agg ⟨[.int .i64 ((rd Ya Yy).often_), .slice Jr ((rd Ya Yy).symbols_).length Jx]⟩), some (.int .i64 JD), some (.bool (decide (JD < (0 : Int)))), some (.bool (!(decide (JD < (0 : Int)))))]) 9 [(0, 9), (4, 9), (8, 9), (3, 4), (7, 8), (1, 3), (2, 3), (5, 7), (6, 7)] hA hcl hav hm hpre hk rfl rfl rfl rfl rfl rfl rfl
        clear hm hav
        refine x8 hA hst ho hcl hmust [10, 11] rfl rfl rfl (by exact ⟨nB rfl, nQ rfl (by exact qW (un rfl rfl) rfl), trivial⟩) fun a w hS => ?_
        replace hS := hS.env2 (e' := [(0, .slice Yb Yh.length Ye), (2, .int .i64 Yj), (4, xE cq [] []), (14, .int .i64 YU), (15, .int .i64 YY), (16, .int .i64 Yy), (103, .bool (!(decide (JD < (0 : Int)))))]) ⟨rfl, rfl, rfl, rfl, rfl, rfl, rfl, trivial⟩
        refine qh <| qv hS rfl hM (fun VA hM => ?_) (fun VA hM => ?_)
        ·refine zh ?_
         refine sM hS rfl fun hS => sB hS rfl fun hS => zb (v := Value.int .i64) (x0 := (ql (Yy + (1 : Int)))) hS (zG rfl) rfl fun Uy a w hz hS => ?_
         have hM := qA hz hM; clear hz
         refine qK <| ze (qh ?_)
         exact JO _ _ ⟨Uy, YY, hS.to [0, 1] (by kernel_rfl) ⟨rfl, rfl, rfl, rfl, rfl, trivial⟩, hM⟩
        ·refine zh ?_
         refine sM hS rfl fun hS => sA hS rfl fun hS => qK <| ze (qh ?_)
         exact JO _ _ ⟨YU, Yy, hS.to [0, 1] (by kernel_rfl) ⟨rfl, rfl, rfl, rfl, rfl, trivial⟩, hM⟩
       ·refine wp_exit ?_
        refine qu (qu (qJ (qh ?_)))
        exact Vo _ _ ⟨YU, hS.to [0, 1] (by kernel_rfl) ⟨rfl, rfl, rfl, trivial⟩, hM⟩
     ·intro a w hI
      obtain ⟨YW, hS, hM⟩ := hI
      rw [qa.j6] at hM
      refine wp_seq <| qo <| sM hS rfl fun hS => sA hS rfl fun hS => qz <| zP <| qU (fun Vj a w => ∃ (Yq : List (qG 2)) (Yg : (List qb)) (JB : qr) (Yd : Int), Ss 220 [] [(0, .slice Yb Yq.length Ye), (14, .int .i64 YW), (17, .int .i64 Yd)] H [Yl, JB] F a w ∧ (zJ 70 (qG.v (sz := 2)) 2 Yb Yq Ye JB) ∧ (qD (qf Yl) Yg Yq) ∧ (Yq.length = Yh.length) ∧ (qa.l7 K (qa.r K d) YW Vj Yg Yd).wp kr kp) K ?_ ?_ ?_
      ·exact ⟨Yh, Ya, Yt, Yj, hS.to [0, 1] (by kernel_rfl) ⟨rfl, rfl, rfl, trivial⟩, Ys, Yn, Y4, hM⟩
      ·intro a w hI; obtain ⟨_, _, _, _, _, _, _, _, hM⟩ := hI; exact qS hM
      ·intro Vj a w hI UG Vp
       obtain ⟨Yq, Yg, JB, Yd, hS, YI, YA, J5, hM⟩ := hI
       rw [qa.l7] at hM
       refine wp_seq <| qo <| sM hS rfl fun hS => sM hS rfl fun hS => sB hS rfl fun hS => qz <| qv hS rfl hM (fun VB hM => ?_) (fun VB hM => ?_)
       ·refine wp_skip ?_
        refine qh <| wp_seq <| zP ?_
        obtain ⟨Jd, hM⟩ := qx hM
        obtain ⟨YL, YP, V8, VY, VO⟩ := YA.get Jd
        obtain ⟨YS, hM⟩ := qx hM
        obtain ⟨YM, YQ, V9, VZ, VP⟩ := YA.get YS
        refine zc (vals := [some (.slice Yb Yq.length Ye), some (.int .i64 Yd), some (.slice Yb Yq.length Ye), some (.int .i64 Yd), some (.int .i64 (ql (Yd - (1 : Int)))), some (.slice Yb Yq.length Ye), some (.int .i64 Yd), some (.int .i64 (ql (Yd - (1 : Int)))), some (zn Yb (Int.toNat (ql (Yd - (1 : Int))) * 2)), some (.agg ⟨[.int .i64 ((rd Yg (ql (Yd - (1 : Int)))).often_), .slice YL ((rd Yg (ql (Yd - (1 : Int)))).symbols_).length YP]⟩), some (.slice Yb Yq.length Ye), some (.int .i64 Yd), some (zn Yb (Int.toNat Yd * 2)), some (.agg ⟨[.int .i64 ((rd Yg Yd).often_), .slice YM ((rd Yg Yd).symbols_).length YQ]⟩), some (zn Yb (Int.toNat Yd * 2)), none, none, none]) hS xc rfl ?_
        intro l w ho hcl hA hst
        refine vP hA hst ho hcl xS xe 15 [0, 1, 2, 3, 4, 5, 6, 7, 8, 9, 10, 11, 12, 13, 14] rfl rfl rfl rfl rfl (by exact ⟨nM rfl, nM rfl, nM rfl, nM rfl, nB rfl, nM rfl, nM rfl, nB rfl, nQ rfl (by exact qW (zM rfl rfl Try.runUnderlying68 Try.sizeOf70 (YI.rd (i := 1) rfl) qG.len rfl (YA.inb Jd)) rfl), nQ rfl (by exact qW (qW (yl rfl (YI.rd (i := 1) rfl) qG.len (YA.inb Jd) Try.isAgg70 Try.sizeOf70 rfl) (congrArg (fun l => Value.agg ⟨l⟩) V8)) rfl), nM rfl, nM rfl, nQ rfl (by exact qW (zM rfl rfl Try.runUnderlying68 Try.sizeOf70 (YI.rd (i := 1) rfl) qG.len rfl (YA.inb YS)) rfl), nQ rfl (by exact qW (qW (yl rfl (YI.rd (i := 1) rfl) qG.len (YA.inb YS) Try.isAgg70 Try.sizeOf70 rfl) (congrArg (fun l => Value.agg ⟨l⟩) V9)) rfl), nQ rfl (by exact qW (zM rfl rfl Try.runUnderlying68 Try.sizeOf70 (YI.rd (i := 1) rfl) qG.len rfl (YA.inb YS)) rfl), trivial⟩) fun D l a w ho hcl hav hpre hm hE hk hA hst => ?_
        have hS := (Ss.mk hE hst).env2 (e' := [(122, .agg ⟨[.int .i64 ((rd Yg (ql (Yd - (1 : Int)))).often_), .slice YL ((rd Yg (ql (Yd - (1 : Int)))).symbols_).length YP]⟩), (127, zn Yb (Int.toNat Yd * 2))]) ⟨rfl, rfl, trivial⟩
        refine zr rfl <| vV (i := Yd) (sz := 2) 1 (⟨[.int .i64 ((rd Yg (ql (Yd - (1 : Int)))).often_), .slice YL ((rd Yg (ql (Yd - (1 : Int)))).symbols_).length YP], by simp, by simp [Value.oneCell']⟩ : qG 2) hS rfl rfl YI rfl Try.sizeOf70 rfl (YA.inb YS) fun Va w UO hz JU hS => ?_
        obtain ⟨Un, hzm⟩ := yd (Yg.set (Int.toNat Yd) (qb.mk ((rd Yg (ql (Yd - (1 : Int)))).often_) ((rd Yg (ql (Yd - (1 : Int)))).symbols_)))
        replace hM := qA hzm hM
        have Y3 := qD.set (x := (qb.mk ((rd Yg (ql (Yd - (1 : Int)))).often_) ((rd Yg (ql (Yd - (1 : Int)))).symbols_))) (r := (⟨[.int .i64 ((rd Yg (ql (Yd - (1 : Int)))).often_), .slice YL ((rd Yg (ql (Yd - (1 : Int)))).symbols_).length YP], by simp, by simp [Value.oneCell']⟩ : qG 2)) (Int.toNat Yd) YA (show qf Yl _ _ from ⟨YL, YP, rfl, VY, VO⟩)
        have Jh : Va.length = Yq.length := by rw [hz]; exact List.length_set ..
        rw [← hz, ← hzm] at Y3; clear hz hzm
        have Ue := Eq.trans Jh J5
        refine qz ?_
        replace hst := hS.st
        obtain ⟨JY, hM⟩ := qx hM
        obtain ⟨hcl, hmust, hav2, hA⟩ := QV (vals' := [some (.slice Yb Yq.length Ye), some (.int .i64 Yd), some (.slice Yb Yq.length Ye), some (.int .i64 Yd), some (.int .i64 (ql (Yd - (1 : Int)))), some (.slice Yb Yq.length Ye), some (.int .i64 Yd), some (.int .i64 (ql (Yd - (1 : Int)))), some (zn Yb (Int.toNat (ql (Yd - (1 : Int))) * 2)), some (.agg ⟨[.int .i64 ((rd Yg (ql (Yd - (1 : Int)))).often_), .slice YL ((rd Yg (ql (Yd - (1 : Int)))).symbols_).length YP]⟩), some (.slice Yb Yq.length Ye), some (.int .i64 Yd), some (zn Yb (Int.toNat Yd * 2)), some (.agg ⟨[.int .i64 ((rd Yg Yd).often_), .slice YM ((rd Yg Yd).symbols_).length YQ]⟩), some (zn Yb (Int.toNat Yd * 2)), some undef, some (zn Yb (Int.toNat (ql (Yd - (1 : Int))) * 2)), none]) 15 [(0, 15), (1, 15), (5, 15), (6, 15), (7, 15), (8, 15), (9, 15), (13, 15), (14, 15), (12, 13), (10, 12), (11, 12)] hA hcl hav hm hpre rfl rfl rfl rfl rfl
        clear hm hav
        refine vP hA hst ho hcl hav2 hmust 17 [2, 3, 4, 16] rfl rfl rfl rfl rfl (by exact ⟨nM rfl, nM rfl, nB rfl, nQ rfl (by exact qW (zM (Q4 Jh rfl) rfl Try.runUnderlying68 Try.sizeOf70 (JU.rd (i := 1) rfl) qG.len rfl (Y3.inb JY)) rfl), trivial⟩) fun D l a w ho hcl hav hpre hm hE hk hA hst => ?_
        have hS := (Ss.mk hE hst).env2 (e' := [(126, .agg ⟨[.int .i64 ((rd Yg Yd).often_), .slice YM ((rd Yg Yd).symbols_).length YQ]⟩), (128, zn Yb (Int.toNat (ql (Yd - (1 : Int))) * 2))]) ⟨rfl, rfl, trivial⟩
        refine zr rfl <| vV (i := (ql (Yd - (1 : Int)))) (sz := 2) 1 (⟨[.int .i64 ((rd Yg Yd).often_), .slice YM ((rd Yg Yd).symbols_).length YQ], by simp, by simp [Value.oneCell']⟩ : qG 2) hS rfl rfl JU rfl Try.sizeOf70 rfl (Y3.inb JY) fun Jj w Uq hz Vt hS => ?_
        obtain ⟨Uo, hzm⟩ := yd (Un.set (Int.toNat (ql (Yd - (1 : Int)))) (qb.mk ((rd Yg Yd).often_) ((rd Yg Yd).symbols_)))
        replace hM := qA hzm hM
        have J0 := qD.set (x := (qb.mk ((rd Yg Yd).often_) ((rd Yg Yd).symbols_))) (r := (⟨[.int .i64 ((rd Yg Yd).often_), .slice YM ((rd Yg Yd).symbols_).length YQ], by simp, by simp [Value.oneCell']⟩ : qG 2)) (Int.toNat (ql (Yd - (1 : Int)))) Y3 (show qf Yl _ _ from ⟨YM, YQ, rfl, VZ, VP⟩)
        have J6 : Jj.length = Va.length := by rw [hz]; exact List.length_set ..
        rw [← hz, ← hzm] at J0; clear hz hzm
        have Uf := Eq.trans J6 Ue
        refine qz ?_
        replace hst := hS.st
        obtain ⟨hcl, hmust, hav2, hA⟩ := QV (vals' := [some (.slice Yb Yq.length Ye), some (.int .i64 Yd), some (.slice Yb Yq.length Ye), some (.int .i64 Yd), some (.int .i64 (ql (Yd - (1 : Int)))), some (.slice Yb Yq.length Ye), some (.int .i64 Yd), some (.int .i64 (ql (Yd - (1 : Int)))), some (zn Yb (Int.toNat (ql (Yd - (1 : Int))) * 2)), some (.agg ⟨[.int .i64 ((rd Yg (ql (Yd - (1 : Int)))).often_), .slice YL ((rd Yg (ql (Yd - (1 : Int)))).symbols_).length YP]⟩), some (.slice Yb Yq.length Ye), some (.int .i64 Yd), some (zn Yb (Int.toNat Yd * 2)), some (.agg ⟨[.int .i64 ((rd Yg Yd).often_), .slice YM ((rd Yg Yd).symbols_).length YQ]⟩), some (zn Yb (Int.toNat Yd * 2)), some undef, some (zn Yb (Int.toNat (ql (Yd - (1 : Int))) * 2)), some undef]) 17 [(0, 17), (1, 17), (2, 17), (3, 17), (4, 17), (5, 17), (6, 17), (7, 17), (8, 17), (9, 17), (10, 17), (11, 17), (12, 17), (13, 17), (14, 17), (15, 17), (16, 17)] hA hcl hav hm hpre rfl rfl rfl rfl rfl
        clear hm hav
        refine x8 hA hst ho hcl hmust [] rfl rfl rfl trivial fun a w hS => ?_
        replace hS := hS.env2 (e' := [(0, .slice Yb Jj.length Ye), (14, .int .i64 YW), (17, .int .i64 Yd)]) ⟨(Qz (u := .slice Yb Yq.length Ye) rfl (by rw [J6, Jh])), rfl, rfl, trivial⟩
        refine ze (qh ?_)
        refine zh <| sM hS rfl fun hS => sB hS rfl fun hS => zb (v := Value.int .i64) (x0 := (ql (Yd - (1 : Int)))) hS (zG rfl) rfl fun Uk a w hz hS => ?_
        have hM := qA hz hM; clear hz
        refine qK <| qh ?_
        exact Vp _ _ ⟨Jj, Uo, Uq, Uk, hS.to [0, 1] (by kernel_rfl) ⟨rfl, rfl, rfl, trivial⟩, Vt, J0, Uf, hM⟩
       ·refine wp_exit ?_
        refine qu (qu (qJ (qh ?_)))
        refine wp_ret <| qy ?_
        exact qZ (rs := []) hS rfl rfl (hret Yq Yg JB _ (qQ hM) YI YA J5 (hS.st.pick [0, 1] (by kernel_rfl)))
    ·refine wp_skip ?_
     refine qh ?_
     exact Vq _ _ ⟨hS.to [0, 1] (by kernel_rfl) ⟨rfl, rfl, rfl, rfl, rfl, trivial⟩, hM⟩
   ·intro a w hI
    obtain ⟨hS, hM⟩ := hI
    rw [qa.j8] at hM
    refine qo <| sM hS rfl fun hS => sM hS rfl fun hS => sB hS rfl fun hS => sO hS (v7 rfl Try.runUnderlying3 Try.runUnderlying46) rfl fun hS => sO hS (shr rfl rfl rfl) rfl fun hS => sO hS (v7 rfl Try.runUnderlying46 Try.runUnderlying3) rfl fun hS => zb (v := Value.int .i64) (x0 := (wr .i64 (yk .u64 (wr .u64 (ql (Yi + Ym))) (1 : Int)))) hS (zG rfl) rfl fun Yo a w hz hS => ?_
    have hM := qA hz hM; clear hz
    refine qz <| qo <| sM hS rfl fun hS => sM hS rfl fun hS => sB hS rfl fun hS => zb (v := Value.int .i64) (x0 := (ql (Yo + Yj))) hS (zG rfl) rfl fun YB a w hz hS => ?_
    have hM := qA hz hM; clear hz
    refine qz <| qo <| sA hS rfl fun hS => sA hS rfl fun hS => qz <| qR (fun a w => ∃ (YG : Int) (JC : Int), Ss 220 [] [(0, .slice Yb Yh.length Ye), (1, .int .i64 Yi), (2, .int .i64 Yj), (3, .int .i64 Ym), (4, xE cq [] []), (18, .int .i64 Yo), (19, .int .i64 YB), (20, .int .i64 YG), (21, .int .i64 JC)] H [Yl, Yt] F a w ∧ (qa.j9 K (qa.r K d) Ya Yi Yj Ym Yo YB YG JC).wp kr kp) (fun UI JP => ?_) ?_
    ·refine wp_seq ?_
     refine zh <| sM hS rfl fun hS => sM hS rfl fun hS => sB hS rfl fun hS => qz <| qv hS rfl hM (fun VC hM => ?_) (fun VC hM => ?_)
     ·refine wp_seq ?_
      refine zh <| sM hS rfl fun hS => sM hS rfl fun hS => sB hS rfl fun hS => zb (v := Value.int .i64) (x0 := (ql (YB - Ym))) hS (zG rfl) rfl fun JF a w hz hS => ?_
      have hM := qA hz hM; clear hz
      refine qz <| zh <| sM hS rfl fun hS => sA hS rfl fun hS => qK <| qh ?_
      exact JP _ _ ⟨JF, Yo, hS.to [0, 1] (by kernel_rfl) ⟨rfl, rfl, rfl, rfl, rfl, rfl, rfl, rfl, rfl, trivial⟩, hM⟩
     ·refine wp_seq ?_
      refine zh <| sM hS rfl fun hS => sA hS rfl fun hS => qz <| zh <| sM hS rfl fun hS => sA hS rfl fun hS => qK <| qh ?_
      exact JP _ _ ⟨Yi, Yj, hS.to [0, 1] (by kernel_rfl) ⟨rfl, rfl, rfl, rfl, rfl, rfl, rfl, rfl, rfl, trivial⟩, hM⟩
    ·intro a w hI
     obtain ⟨YG, JC, hS, hM⟩ := hI
     rw [qa.j9] at hM
     refine qo <| sM hS rfl fun hS => sB hS rfl fun hS => zb (v := Value.int .i64) (x0 := (ql (YB - (1 : Int)))) hS (zG rfl) rfl fun Yw a w hz hS => ?_
     have hM := qA hz hM; clear hz
     refine qz <| qR (fun a w => ∃ (Yr : Int), Ss 220 [] [(0, .slice Yb Yh.length Ye), (1, .int .i64 Yi), (2, .int .i64 Yj), (3, .int .i64 Ym), (4, xE cq [] []), (18, .int .i64 Yo), (19, .int .i64 YB), (20, .int .i64 Yr)] H [Yl, Yt] F a w ∧ (qa.j11 K (qa.r K d) Ya Yi Yj Ym Yo YB Yr).wp kr kp) (fun UK Vr => ?_) ?_
     ·refine zP ?_
      refine qU (fun Vk a w => ∃ (Yv : Int) (YZ : Int), Ss 220 [] [(0, .slice Yb Yh.length Ye), (1, .int .i64 Yi), (2, .int .i64 Yj), (3, .int .i64 Ym), (4, xE cq [] []), (18, .int .i64 Yo), (19, .int .i64 YB), (20, .int .i64 Yv), (21, .int .i64 YZ), (22, .int .i64 Yw)] H [Yl, Yt] F a w ∧ (qa.l10 K (qa.r K d) Ya Yi Yj Ym Yo YB Yw Vk Yv YZ).wp kr kp) K ?_ ?_ ?_
      ·exact ⟨YG, JC, hS.to [0, 1] (by kernel_rfl) ⟨rfl, rfl, rfl, rfl, rfl, rfl, rfl, rfl, rfl, rfl, trivial⟩, hM⟩
      ·intro a w hI; obtain ⟨_, _, _, hM⟩ := hI; exact qS hM
      ·intro Vk a w hI UJ JQ
       obtain ⟨Yv, YZ, hS, hM⟩ := hI
       rw [qa.l10] at hM
       refine wp_seq <| qo <| sM hS rfl fun hS => sM hS rfl fun hS => sB hS rfl fun hS => qz <| qv hS rfl hM (fun VD hM => ?_) (fun VD hM => ?_)
       ·refine wp_skip ?_
        refine qh <| zP <| qo <| sM hS rfl fun hS => sM hS rfl fun hS => sB hS rfl fun hS => sO hS (v7 rfl Try.runUnderlying3 Try.runUnderlying46) rfl fun hS => sO hS (shr rfl rfl rfl) rfl fun hS => sO hS (v7 rfl Try.runUnderlying46 Try.runUnderlying3) rfl fun hS => zb (v := Value.int .i64) (x0 := (wr .i64 (yk .u64 (wr .u64 (ql (Yv + YZ))) (1 : Int)))) hS (zG rfl) rfl fun Yk a w hz hS => ?_
        have hM := qA hz hM; clear hz
        refine qz <| wp_seq ?_
        obtain ⟨Je, hM⟩ := qx hM
        obtain ⟨Js, Jy, Ua, V0, VQ⟩ := Yn.get Je
        obtain ⟨Jf, hM⟩ := qx hM
        obtain ⟨Jt, Jz, Ub, V1, VR⟩ := Yn.get Jf
        refine zc (vals := [some (xE cq [] []), some (.slice Yb Yh.length Ye), some (.int .i64 Yw), some (.int .i64 Yk), some (.int .i64 (ql (Yw - Yk))), some (zn Yb (Int.toNat (ql (Yw - Yk)) * 2)), some (.agg ⟨[.int .i64 ((rd Ya (ql (Yw - Yk))).often_), .slice Js ((rd Ya (ql (Yw - Yk))).symbols_).length Jy]⟩), some (.slice Yb Yh.length Ye), some (.int .i64 Yk), some (zn Yb (Int.toNat Yk * 2)), some (.agg ⟨[.int .i64 ((rd Ya Yk).often_), .slice Jt ((rd Ya Yk).symbols_).length Jz]⟩), none, none, none]) hS xc rfl ?_
        intro l w ho hcl hA hst
        refine vP hA hst ho hcl xS xe 11 [0, 1, 2, 3, 4, 5, 6, 7, 8, 9, 10] rfl rfl rfl rfl rfl (by exact ⟨nM rfl, nM rfl, nM rfl, nM rfl, nB rfl, nQ rfl (by exact qW (zM rfl rfl Try.runUnderlying68 Try.sizeOf70 (Ys.rd (i := 1) rfl) qG.len rfl (Yn.inb Je)) rfl), nQ rfl (by exact qW (qW (yl rfl (Ys.rd (i := 1) rfl) qG.len (Yn.inb Je) Try.isAgg70 Try.sizeOf70 rfl) (congrArg (fun l => Value.agg ⟨l⟩) Ua)) rfl), nM rfl, nM rfl, nQ rfl (by exact qW (zM rfl rfl Try.runUnderlying68 Try.sizeOf70 (Ys.rd (i := 1) rfl) qG.len rfl (Yn.inb Jf)) rfl), nQ rfl (by exact qW (qW (yl rfl (Ys.rd (i := 1) rfl) qG.len (Yn.inb Jf) Try.isAgg70 Try.sizeOf70 rfl) (congrArg (fun l => Value.agg ⟨l⟩) Ub)) rfl), trivial⟩) fun D l a w ho hcl hav hpre hm hE hk hA hst => ?_
        have hS := (Ss.mk hE hst).env2 (e' := [(158, xE cq [] []), (164, .agg ⟨[.int .i64 ((rd Ya (ql (Yw - Yk))).often_), .slice Js ((rd Ya (ql (Yw - Yk))).symbols_).length Jy]⟩), (168, .agg ⟨[.int .i64 ((rd Ya Yk).often_), .slice Jt ((rd Ya Yk).symbols_).length Jz]⟩)]) ⟨rfl, rfl, rfl, trivial⟩
        refine zr rfl <| yU hS rfl rfl (yJ hcq) (jk cq hcq hG K (qb.mk ((rd Ya (ql (Yw - Yk))).often_) ((rd Ya (ql (Yw - Yk))).symbols_)) (qb.mk ((rd Ya Yk).often_) ((rd Ya Yk).symbols_)) Js Jy Jt Jz (V0.rdF (i := 0) rfl) VQ (V1.rdF (i := 0) rfl) VR (hS.st.part 0 [0, 1] (by kernel_rfl)) (qE hM) (fun JE w hM  hst => qP hS.ev hst.appF rfl fun hS => ?_))
        replace hS : Ss _ _ _ H [Yl, Yt] F _ _ := hS
        refine qz ?_
        replace hst := hS.st
        obtain ⟨hcl, hmust, hav2, hA⟩ := dn (vals' := [some (xE cq [] []), some (.slice Yb Yh.length Ye), some (.int .i64 Yw), some (.int .i64 Yk), some (.int .i64 (ql (Yw - Yk))), some (zn Yb (Int.toNat (ql (Yw - Yk)) * 2)), some (.agg ⟨[.int .i64 ((rd Ya (ql (Yw - Yk))).often_), .slice Js ((rd Ya (ql (Yw - Yk))).symbols_).length Jy]⟩), some (.slice Yb Yh.length Ye), some (.int .i64 Yk), some (zn Yb (Int.toNat Yk * 2)), some (.agg ⟨[.int .i64 ((rd Ya Yk).often_), .slice Jt ((rd Ya Yk).symbols_).length Jz]⟩), some (.int .i64 JE), some (.bool (decide (JE < (0 : Int)))), some (.bool (!(decide (JE < (0 : Int)))))]) 11 [(0, 11), (6, 11), (10, 11), (5, 6), (9, 10), (1, 5), (4, 5), (7, 9), (8, 9), (2, 4), (3, 4)] hA hcl hav hm hpre hk rfl rfl rfl rfl rfl rfl rfl
        clear hm hav
        refine x8 hA hst ho hcl hmust [12, 13] rfl rfl rfl (by exact ⟨nB rfl, nQ rfl (by exact qW (un rfl rfl) rfl), trivial⟩) fun a w hS => ?_
        replace hS := hS.env2 (e' := [(0, .slice Yb Yh.length Ye), (1, .int .i64 Yi), (2, .int .i64 Yj), (3, .int .i64 Ym), (4, xE cq [] []), (18, .int .i64 Yo), (19, .int .i64 YB), (20, .int .i64 Yv), (21, .int .i64 YZ), (22, .int .i64 Yw), (23, .int .i64 Yk), (171, .bool (!(decide (JE < (0 : Int)))))]) ⟨rfl, rfl, rfl, rfl, rfl, rfl, rfl, rfl, rfl, rfl, rfl, rfl, trivial⟩
        refine qh <| qv hS rfl hM (fun VE hM => ?_) (fun VE hM => ?_)
        ·refine zh ?_
         refine sM hS rfl fun hS => sB hS rfl fun hS => zb (v := Value.int .i64) (x0 := (ql (Yk + (1 : Int)))) hS (zG rfl) rfl fun JG a w hz hS => ?_
         have hM := qA hz hM; clear hz
         refine qK <| ze (qh ?_)
         exact JQ _ _ ⟨JG, YZ, hS.to [0, 1] (by kernel_rfl) ⟨rfl, rfl, rfl, rfl, rfl, rfl, rfl, rfl, rfl, rfl, trivial⟩, hM⟩
        ·refine zh ?_
         refine sM hS rfl fun hS => sA hS rfl fun hS => qK <| ze (qh ?_)
         exact JQ _ _ ⟨Yv, Yk, hS.to [0, 1] (by kernel_rfl) ⟨rfl, rfl, rfl, rfl, rfl, rfl, rfl, rfl, rfl, rfl, trivial⟩, hM⟩
       ·refine wp_exit ?_
        refine qu (qu (qJ (qh ?_)))
        exact Vr _ _ ⟨Yv, hS.to [0, 1] (by kernel_rfl) ⟨rfl, rfl, rfl, rfl, rfl, rfl, rfl, rfl, trivial⟩, hM⟩
     ·intro a w hI
      obtain ⟨Yr, hS, hM⟩ := hI
      rw [qa.j11] at hM
      refine qo <| sM hS rfl fun hS => sM hS rfl fun hS => sB hS rfl fun hS => zb (v := Value.int .i64) (x0 := (ql (YB - Yr))) hS (zG rfl) rfl fun Yu a w hz hS => ?_
      have hM := qA hz hM; clear hz
      refine qz <| qR (fun a w => ∃ (YC : List (qG 2)) (YE : (List qb)) (Y6 : qr), Ss 220 [] [(0, .slice Yb YC.length Ye), (1, .int .i64 Yi), (3, .int .i64 Ym), (4, xE cq [] []), (18, .int .i64 Yo), (20, .int .i64 Yr), (24, .int .i64 Yu)] H [Yl, Y6] F a w ∧ (zJ 70 (qG.v (sz := 2)) 2 Yb YC Ye Y6) ∧ (qD (qf Yl) YE YC) ∧ (YC.length = Yh.length) ∧ (qa.j12 K (qa.r K d) Yi Ym Yo Yr Yu YE).wp kr kp) (fun UL JR => ?_) ?_
      ·refine wp_seq ?_
       refine zh <| sM hS rfl fun hS => sM hS rfl fun hS => sB hS rfl fun hS => sM hS rfl fun hS => xj 3 true 181 (b := (decide (Yr < Yj))) (r := (decide (Yj < Yu))) hS rfl rfl rfl rfl rfl rfl rfl (fun hb a w hS K hK => ?_) rfl fun a w hS => ?_
       ·refine qX hS rfl rfl rfl hb (mv rfl) rfl fun a w hS => ?_
        refine qX hS rfl rfl rfl hb (mv rfl) rfl fun a w hS => qX hS rfl rfl rfl hb (xq rfl rfl rfl) rfl fun a w hS => ?_
        exact qK (hK _ _ (hS.up 3 rfl rfl))
       refine qz <| qv hS rfl hM (fun VF hM => ?_) (fun VF hM => ?_)
       ·refine zh ?_
        refine sM hS rfl fun hS => sM hS rfl fun hS => sM hS rfl fun hS => sM hS rfl fun hS => sM hS rfl fun hS => qT hS rfl Try.call47 (zE cq hcq hG K Ya Yr Yj Yu Yl Yb Ye Yh Yt Yn Ys (hS.st.part 2 [0, 1] (by kernel_rfl)) (qE hM) (fun Jk JH Vc w hM Ur Us JK hst => qP hS.ev hst.appF rfl fun hS => ?_))
        replace hS : Ss _ _ _ H [Yl, Vc] F _ _ := hS
        have Ug := Eq.trans JK Y4
        replace hS := hS.re 0 (u := .slice Yb Yh.length Ye) (v := .slice Yb Jk.length Ye) rfl (by rw [JK])
        replace hS := hS.re 186 (u := .slice Yb Yh.length Ye) (v := .slice Yb Jk.length Ye) rfl (by rw [JK])
        refine qK <| qh ?_
        exact JR _ _ ⟨Jk, JH, Vc, hS.to [0, 1] (by kernel_rfl) ⟨rfl, rfl, rfl, rfl, rfl, rfl, rfl, trivial⟩, Ur, Us, Ug, hM⟩
       ·refine wp_skip ?_
        refine qh ?_
        exact JR _ _ ⟨Yh, Ya, Yt, hS.to [0, 1] (by kernel_rfl) ⟨rfl, rfl, rfl, rfl, rfl, rfl, rfl, trivial⟩, Ys, Yn, Y4, hM⟩
      ·intro a w hI
       obtain ⟨YC, YE, Y6, hS, JV, J1, J7, hM⟩ := hI
       rw [qa.j12] at hM
       refine qR (fun a w => ∃ (YD : List (qG 2)) (YF : (List qb)) (Y7 : qr), Ss 220 [] [(0, .slice Yb YD.length Ye), (3, .int .i64 Ym), (4, xE cq [] []), (18, .int .i64 Yo), (24, .int .i64 Yu)] H [Yl, Y7] F a w ∧ (zJ 70 (qG.v (sz := 2)) 2 Yb YD Ye Y7) ∧ (qD (qf Yl) YF YD) ∧ (YD.length = Yh.length) ∧ (qa.j13 K (qa.r K d) Ym Yo Yu YF).wp kr kp) (fun UM JS => ?_) ?_
       ·refine wp_seq ?_
        refine zh <| sM hS rfl fun hS => sM hS rfl fun hS => sB hS rfl fun hS => sM hS rfl fun hS => xj 3 true 195 (b := (decide (Yi < Yr))) (r := (decide (Yr < Yo))) hS rfl rfl rfl rfl rfl rfl rfl (fun hb a w hS K hK => ?_) rfl fun a w hS => ?_
        ·refine qX hS rfl rfl rfl hb (mv rfl) rfl fun a w hS => ?_
         refine qX hS rfl rfl rfl hb (mv rfl) rfl fun a w hS => qX hS rfl rfl rfl hb (xq rfl rfl rfl) rfl fun a w hS => ?_
         exact qK (hK _ _ (hS.up 3 rfl rfl))
        refine qz <| qv hS rfl hM (fun VG hM => ?_) (fun VG hM => ?_)
        ·refine zh ?_
         refine sM hS rfl fun hS => sM hS rfl fun hS => sM hS rfl fun hS => sM hS rfl fun hS => sM hS rfl fun hS => qT hS rfl Try.call44 (ih hG  YE Yi Yr Yo Yl Yb Ye YC Y6 J1 JV (hS.st.part 2 [0, 1] (by kernel_rfl)) (qE hM) (fun Jl JI Vd w hM Ut Uu JL hst => qP hS.ev hst.appF rfl fun hS => ?_))
         replace hS : Ss _ _ _ H [Yl, Vd] F _ _ := hS
         have Uh := Eq.trans JL J7
         replace hS := hS.re 0 (u := .slice Yb YC.length Ye) (v := .slice Yb Jl.length Ye) rfl (by rw [JL])
         replace hS := hS.re 200 (u := .slice Yb YC.length Ye) (v := .slice Yb Jl.length Ye) rfl (by rw [JL])
         refine qK <| qh ?_
         exact JS _ _ ⟨Jl, JI, Vd, hS.to [0, 1] (by kernel_rfl) ⟨rfl, rfl, rfl, rfl, rfl, trivial⟩, Ut, Uu, Uh, hM⟩
        ·refine wp_skip ?_
         refine qh ?_
         exact JS _ _ ⟨YC, YE, Y6, hS.to [0, 1] (by kernel_rfl) ⟨rfl, rfl, rfl, rfl, rfl, trivial⟩, JV, J1, J7, hM⟩
       ·intro a w hI
        obtain ⟨YD, YF, Y7, hS, JW, J2, J8, hM⟩ := hI
        rw [qa.j13] at hM
        refine qo <| sM hS rfl fun hS => sM hS rfl fun hS => sB hS rfl fun hS => sM hS rfl fun hS => xj 3 true 209 (b := (decide (Yo < Yu))) (r := (decide (Yu < Ym))) hS rfl rfl rfl rfl rfl rfl rfl (fun hb a w hS K hK => ?_) rfl fun a w hS => ?_
        ·refine qX hS rfl rfl rfl hb (mv rfl) rfl fun a w hS => ?_
         refine qX hS rfl rfl rfl hb (mv rfl) rfl fun a w hS => qX hS rfl rfl rfl hb (xq rfl rfl rfl) rfl fun a w hS => ?_
         exact qK (hK _ _ (hS.up 3 rfl rfl))
        refine qz <| qv hS rfl hM (fun VH hM => ?_) (fun VH hM => ?_)
        ·refine zh ?_
         refine sM hS rfl fun hS => sM hS rfl fun hS => sM hS rfl fun hS => sM hS rfl fun hS => sM hS rfl fun hS => qT hS rfl Try.call44 (ih hG  YF Yo Yu Ym Yl Yb Ye YD Y7 J2 JW (hS.st.part 2 [0, 1] (by kernel_rfl)) (qE hM) (fun Jm JJ Ve w hM Uv Uw JM hst => qP hS.ev hst.appF rfl fun hS => ?_))
         replace hS : Ss _ _ _ H [Yl, Ve] F _ _ := hS
         have Ui := Eq.trans JM J8
         replace hS := hS.re 0 (u := .slice Yb YD.length Ye) (v := .slice Yb Jm.length Ye) rfl (by rw [JM])
         replace hS := hS.re 214 (u := .slice Yb YD.length Ye) (v := .slice Yb Jm.length Ye) rfl (by rw [JM])
         refine qK ?_
         exact jH (rs := []) hS rfl rfl (hret Jm JJ Ve _ (qQ hM) Uv Uw Ui (hS.st.pick [0, 1] (by kernel_rfl)))
        ·refine wp_skip ?_
         exact jH (rs := []) hS rfl rfl (hret YD YF Y7 _ (qQ hM) JW J2 J8 (hS.st.pick [0, 1] (by kernel_rfl)))
theorem zo (cq : Nat) (hcq : cq = 33 ∨ cq = 41) {H : zB} {F : List qr} {w : World} {R : Ending → World → Prop} {kr : (List qb) → Prop} {kp : Value → Prop} (hG : Gl H) (K : Nat) (Ya : List qb) (Ye : Int) (Yk : Int) (Yf : Int) (Yd : qr) (Yh : Option Addr) (Yi : Nat) (Yb : List (qG 2)) (Yj : qr) (Yn : qD (qf Yd) Ya Yb) (Ym : zJ 70 (qG.v (sz := 2)) 2 Yh Yb Yi Yj)
    (hS : St w H [Yd, Yj] F) (hm : (qa.m K Ya Ye Yk Yf).wp kr kp)
    (hret : ∀ (Yg : List (qG 2)) (Yc : (List qb)) (Yl : qr) (w : World), kr Yc → (zJ 70 (qG.v (sz := 2)) 2 Yh Yg Yi Yl) → (qD (qf Yd) Yc Yg) → (Yg.length = Yb.length) → St w H [Yd, Yl] F → R (.returned (.tuple ⟨[]⟩)) w) :
    Calls Try.prog 44 ⟨[.slice Yh Yb.length Yi, .int .i64 Ye, .int .i64 Yk, .int .i64 Yf, xE cq [] []]⟩ w R := zz cq hcq K K hG Ya Ye Yk Yf Yd Yh Yi Yb Yj Yn Ym hS hm hret
theorem zF (cq : Nat) (hcq : cq = 33 ∨ cq = 41) {H : zB} {F : List qr} {w : World} {R : Ending → World → Prop} {kr : (List qb) → Prop} {kp : Value → Prop} (hG : Gl H) (K : Nat) (Yw : List qb) (Yd : Int) (Ye : qr) (Yb : Option Addr) (Yc : Nat) (Yh : List (qG 2)) (Jc : qr) (Jy : qD (qf Ye) Yw Yh) (Jv : zJ 70 (qG.v (sz := 2)) 2 Yb Yh Yc Jc)
    (hS : St w H [Ye, Jc] F) (hm : (qd.m K Yw Yd).wp kr kp)
    (hret : ∀ (YE : List (qG 2)) (Yy : (List qb)) (Y5 : qr) (w : World), kr Yy → (zJ 70 (qG.v (sz := 2)) 2 Yb YE Yc Y5) → (qD (qf Ye) Yy YE) → (YE.length = Yh.length) → St w H [Ye, Y5] F → R (.returned (.tuple ⟨[]⟩)) w) :
    Calls Try.prog 38 ⟨[.slice Yb Yh.length Yc, .int .i64 Yd, xE cq [] []]⟩ w R := by
 refine enter Try.func38 rfl Try.ntmps38 rfl hS fun a w hS => ?_
 have hM := hm; clear hm
 rw [qd.m] at hM
 have JN : ∀ q ∈ Ye, q ∈ Ye := fun _ h => h
 have JA : Yh.length = Yh.length := rfl
 refine qo <| sA hS rfl fun hS => qz <| qo <| sM hS rfl fun hS => sA hS rfl fun hS => sA hS rfl fun hS => qz <| qR (fun a w => ∃ (Yq : List (qG 2)) (Yr : (List qb)) (Y0 : qr) (YF : Int), Ss 63 [] [(0, .slice Yb Yq.length Yc), (1, .int .i64 Yd), (2, xE cq [] []), (6, .int .i64 (20 : Int)), (7, .int .i64 YF)] H [Ye, Y0] F a w ∧ (zJ 70 (qG.v (sz := 2)) 2 Yb Yq Yc Y0) ∧ (qD (qf Ye) Yr Yq) ∧ (Yq.length = Yh.length) ∧ (qd.j2 K Yd Yr YF).wp kr kp) (fun JP Ju => ?_) ?_
 ·refine zP ?_
  refine qU (fun JE a w => ∃ (Yn : List (qG 2)) (Ym : (List qb)) (YJ : qr) (Yx : Int) (Yv : Int), Ss 63 [] [(0, .slice Yb Yn.length Yc), (1, .int .i64 Yd), (2, xE cq [] []), (6, .int .i64 (20 : Int)), (7, .int .i64 Yx), (8, .int .i64 Yv)] H [Ye, YJ] F a w ∧ (zJ 70 (qG.v (sz := 2)) 2 Yb Yn Yc YJ) ∧ (qD (qf Ye) Ym Yn) ∧ (Yn.length = Yh.length) ∧ (qd.l1 K Yd JE Ym Yx Yv).wp kr kp) K ?_ ?_ ?_
  ·exact ⟨Yh, Yw, Jc, (0 : Int), (20 : Int), hS.to [0, 1] (by kernel_rfl) ⟨rfl, rfl, rfl, rfl, rfl, rfl, trivial⟩, Jv, Jy, JA, hM⟩
  ·intro a w hI; obtain ⟨_, _, _, _, _, _, _, _, _, hM⟩ := hI; exact qS hM
  ·intro JE a w hI JO Jt
   obtain ⟨Yn, Ym, YJ, Yx, Yv, hS, Y6, Y7, Y8, hM⟩ := hI
   rw [qd.l1] at hM
   refine wp_seq <| qo <| sM hS rfl fun hS => sM hS rfl fun hS => sB hS rfl fun hS => qz <| qv hS rfl hM (fun Jx hM => ?_) (fun Jx hM => ?_)
   ·refine wp_skip ?_
    refine qh <| zP <| qo <| sM hS rfl fun hS => sM hS rfl fun hS => sM hS rfl fun hS => sM hS rfl fun hS => qT hS rfl Try.call43 (zj cq hcq hG K Ym Yx Yv Ye Yb Yc Yn YJ Y7 Y6 (hS.st.part 2 [0, 1] (by kernel_rfl)) (qE hM) (fun YW YY Jn w hM JG JH Jd hst => qP hS.ev hst.appF rfl fun hS => ?_))
    replace hS : Ss _ _ _ H [Ye, Jn] F _ _ := hS
    have JB := Eq.trans Jd Y8
    replace hS := hS.re 0 (u := .slice Yb Yn.length Yc) (v := .slice Yb YW.length Yc) rfl (by rw [Jd])
    replace hS := hS.re 14 (u := .slice Yb Yn.length Yc) (v := .slice Yb YW.length Yc) rfl (by rw [Jd])
    refine qz <| qo <| sM hS rfl fun hS => sA hS rfl fun hS => qz <| zh <| sM hS rfl fun hS => sM hS rfl fun hS => sB hS rfl fun hS => zb (v := Value.int .i64) (x0 := (ql (Yv + (20 : Int)))) hS (zG rfl) rfl fun Jm a w hz hS => ?_
    have hM := qA hz hM; clear hz
    refine qK <| ze (qh ?_)
    exact Jt _ _ ⟨YW, YY, Jn, Yv, Jm, hS.to [0, 1] (by kernel_rfl) ⟨rfl, rfl, rfl, rfl, rfl, rfl, trivial⟩, JG, JH, JB, hM⟩
   ·refine wp_exit ?_
    refine qu (qu (qJ (qh ?_)))
    exact Ju _ _ ⟨Yn, Ym, YJ, Yx, hS.to [0, 1] (by kernel_rfl) ⟨rfl, rfl, rfl, rfl, rfl, trivial⟩, Y6, Y7, Y8, hM⟩
 ·intro a w hI
  obtain ⟨Yq, Yr, Y0, YF, hS, Jw, Jz, JC, hM⟩ := hI
  rw [qd.j2] at hM
  refine qo <| sM hS rfl fun hS => sM hS rfl fun hS => sM hS rfl fun hS => sM hS rfl fun hS => qT hS rfl Try.call43 (zj cq hcq hG K Yr YF Yd Ye Yb Yc Yq Y0 Jz Jw (hS.st.part 2 [0, 1] (by kernel_rfl)) (qE hM) (fun YX YZ Jo w hM JI JJ Je hst => qP hS.ev hst.appF rfl fun hS => ?_))
  replace hS : Ss _ _ _ H [Ye, Jo] F _ _ := hS
  have JD := Eq.trans Je JC
  replace hS := hS.re 0 (u := .slice Yb Yq.length Yc) (v := .slice Yb YX.length Yc) rfl (by rw [Je])
  replace hS := hS.re 23 (u := .slice Yb Yq.length Yc) (v := .slice Yb YX.length Yc) rfl (by rw [Je])
  refine qz <| zP <| qU (fun YG a w => ∃ (Yl : List (qG 2)) (Yi : (List qb)) (Yz : qr) (Ya : Int), Ss 63 [] [(0, .slice Yb Yl.length Yc), (1, .int .i64 Yd), (2, xE cq [] []), (6, .int .i64 Ya)] H [Ye, Yz] F a w ∧ (zJ 70 (qG.v (sz := 2)) 2 Yb Yl Yc Yz) ∧ (qD (qf Ye) Yi Yl) ∧ (Yl.length = Yh.length) ∧ (qd.l3 K Yd YG Yi Ya).wp kr kp) K ?_ ?_ ?_
  ·exact ⟨YX, YZ, Jo, (20 : Int), hS.to [0, 1] (by kernel_rfl) ⟨rfl, rfl, rfl, rfl, trivial⟩, JI, JJ, JD, hM⟩
  ·intro a w hI; obtain ⟨_, _, _, _, _, _, _, _, hM⟩ := hI; exact qS hM
  ·intro YG a w hI JM YM
   obtain ⟨Yl, Yi, Yz, Ya, hS, YN, YQ, YT, hM⟩ := hI
   rw [qd.l3] at hM
   refine wp_seq <| qo <| sM hS rfl fun hS => sM hS rfl fun hS => sB hS rfl fun hS => qz <| qv hS rfl hM (fun Jh hM => ?_) (fun Jh hM => ?_)
   ·refine wp_skip ?_
    refine qh <| zP <| qo <| sM hS rfl fun hS => sB hS rfl fun hS => sA hS rfl fun hS => zb (v := Value.int .i64) (x0 := (ql ((2 : Int) * Ya))) hS (zG rfl) rfl fun Ja a w hz hS => ?_
    have hM := qA hz hM; clear hz
    refine qz <| qR (fun a w => ∃ (Yg : List (qG 2)) (Yk : (List qb)) (YB : qr) (Ys : Int), Ss 63 [] [(0, .slice Yb Yg.length Yc), (1, .int .i64 Yd), (2, xE cq [] []), (6, .int .i64 Ya), (7, .int .i64 Ys)] H [Ye, YB] F a w ∧ (zJ 70 (qG.v (sz := 2)) 2 Yb Yg Yc YB) ∧ (qD (qf Ye) Yk Yg) ∧ (Yg.length = Yh.length) ∧ (qd.j5 K (qd.l3 K Yd YG) Yd Ya Yk Ys).wp kr kp) (fun JL Jg => ?_) ?_
    ·refine zP ?_
     refine qU (fun Y9 a w => ∃ (Yf : List (qG 2)) (Yj : (List qb)) (YA : qr) (Yo : Int) (Yp : Int), Ss 63 [] [(0, .slice Yb Yf.length Yc), (1, .int .i64 Yd), (2, xE cq [] []), (6, .int .i64 Ya), (7, .int .i64 Yo), (8, .int .i64 Yp)] H [Ye, YA] F a w ∧ (zJ 70 (qG.v (sz := 2)) 2 Yb Yf Yc YA) ∧ (qD (qf Ye) Yj Yf) ∧ (Yf.length = Yh.length) ∧ (qd.l4 K (qd.l3 K Yd YG) Yd Ya Y9 Yj Yo Yp).wp kr kp) K ?_ ?_ ?_
     ·exact ⟨Yl, Yi, Yz, (0 : Int), Ja, hS.to [0, 1] (by kernel_rfl) ⟨rfl, rfl, rfl, rfl, rfl, rfl, trivial⟩, YN, YQ, YT, hM⟩
     ·intro a w hI; obtain ⟨_, _, _, _, _, _, _, _, _, hM⟩ := hI; exact qS hM
     ·intro Y9 a w hI JK Jf
      obtain ⟨Yf, Yj, YA, Yo, Yp, hS, YO, YR, YU, hM⟩ := hI
      rw [qd.l4] at hM
      refine wp_seq <| qo <| sM hS rfl fun hS => sM hS rfl fun hS => sB hS rfl fun hS => qz <| qv hS rfl hM (fun Ji hM => ?_) (fun Ji hM => ?_)
      ·refine wp_skip ?_
       refine qh <| zP <| qo <| sM hS rfl fun hS => sM hS rfl fun hS => sM hS rfl fun hS => sM hS rfl fun hS => sB hS rfl fun hS => sM hS rfl fun hS => sM hS rfl fun hS => qT hS rfl Try.call44 (zo cq hcq hG K Yj Yo (ql (Yo + Ya)) Yp Ye Yb Yc Yf YA YR YO (hS.st.part 2 [0, 1] (by kernel_rfl)) (qE hM) (fun YC YH Y3 w hM Jp Jq YK hst => qP hS.ev hst.appF rfl fun hS => ?_))
       replace hS : Ss _ _ _ H [Ye, Y3] F _ _ := hS
       have Jk := Eq.trans YK YU
       replace hS := hS.re 0 (u := .slice Yb Yf.length Yc) (v := .slice Yb YC.length Yc) rfl (by rw [YK])
       replace hS := hS.re 36 (u := .slice Yb Yf.length Yc) (v := .slice Yb YC.length Yc) rfl (by rw [YK])
       refine qz <| qo <| sM hS rfl fun hS => sA hS rfl fun hS => qz <| zh <| sM hS rfl fun hS => sM hS rfl fun hS => sB hS rfl fun hS => sB hS rfl fun hS => zb (v := Value.int .i64) (x0 := (ql (Yp + (ql ((2 : Int) * Ya))))) hS (zG rfl) rfl fun Jb a w hz hS => ?_
       have hM := qA hz hM; clear hz
       refine qK <| ze (qh ?_)
       exact Jf _ _ ⟨YC, YH, Y3, Yp, Jb, hS.to [0, 1] (by kernel_rfl) ⟨rfl, rfl, rfl, rfl, rfl, rfl, trivial⟩, Jp, Jq, Jk, hM⟩
      ·refine wp_exit ?_
       refine qu (qu (qJ (qh ?_)))
       exact Jg _ _ ⟨Yf, Yj, YA, Yo, hS.to [0, 1] (by kernel_rfl) ⟨rfl, rfl, rfl, rfl, rfl, trivial⟩, YO, YR, YU, hM⟩
    ·intro a w hI
     obtain ⟨Yg, Yk, YB, Ys, hS, YP, YS, YV, hM⟩ := hI
     rw [qd.j5] at hM
     refine wp_seq <| qo <| sM hS rfl fun hS => sM hS rfl fun hS => sB hS rfl fun hS => zb (v := Value.int .i64) (x0 := (ql (Ys + Ya))) hS (zG rfl) rfl fun JF a w hz hS => ?_
     have hM := qA hz hM; clear hz
     refine qz <| qo <| sM hS rfl fun hS => sM hS rfl fun hS => sB hS rfl fun hS => qz <| qv hS rfl hM (fun Jj hM => ?_) (fun Jj hM => ?_)
     ·refine zh ?_
      refine sM hS rfl fun hS => sM hS rfl fun hS => sM hS rfl fun hS => sM hS rfl fun hS => sM hS rfl fun hS => qT hS rfl Try.call44 (zo cq hcq hG K Yk Ys JF Yd Ye Yb Yc Yg YB YS YP (hS.st.part 2 [0, 1] (by kernel_rfl)) (qE hM) (fun YD YI Y4 w hM Jr Js YL hst => qP hS.ev hst.appF rfl fun hS => ?_))
      replace hS : Ss _ _ _ H [Ye, Y4] F _ _ := hS
      have Jl := Eq.trans YL YV
      replace hS := hS.re 0 (u := .slice Yb Yg.length Yc) (v := .slice Yb YD.length Yc) rfl (by rw [YL])
      replace hS := hS.re 55 (u := .slice Yb Yg.length Yc) (v := .slice Yb YD.length Yc) rfl (by rw [YL])
      refine qz <| zh <| sM hS rfl fun hS => sB hS rfl fun hS => zb (v := Value.int .i64) (x0 := (ql (Ya * (2 : Int)))) hS (zG rfl) rfl fun Yt a w hz hS => ?_
      have hM := qA hz hM; clear hz
      refine qK <| ze (qh ?_)
      exact YM _ _ ⟨YD, YI, Y4, Yt, hS.to [0, 1] (by kernel_rfl) ⟨rfl, rfl, rfl, rfl, trivial⟩, Jr, Js, Jl, hM⟩
     ·refine wp_skip ?_
      refine qh <| zh <| sM hS rfl fun hS => sB hS rfl fun hS => zb (v := Value.int .i64) (x0 := (ql (Ya * (2 : Int)))) hS (zG rfl) rfl fun Yu a w hz hS => ?_
      have hM := qA hz hM; clear hz
      refine qK <| ze (qh ?_)
      exact YM _ _ ⟨Yg, Yk, YB, Yu, hS.to [0, 1] (by kernel_rfl) ⟨rfl, rfl, rfl, rfl, trivial⟩, YP, YS, YV, hM⟩
   ·refine wp_exit ?_
    refine qu (qu (qJ ?_))
    exact jH (rs := []) hS rfl rfl (hret Yl Yi Yz _ (qQ hM) YN YQ YT (hS.st.pick [0, 1] (by kernel_rfl)))
theorem za (cq : Nat) (hcq : cq = 33 ∨ cq = 41) {H : zB} {F : List qr} {w : World} {R : Ending → World → Prop} {kr : (List qb) → Prop} {kp : Value → Prop} (hG : Gl H) (K : Nat) (Yi : List qb) (Ye : qr) (Yb : Option Addr) (Yc : Nat) (Ya : List (qG 2)) (Yn : qr) (Yl : qD (qf Ye) Yi Ya) (Yr : zJ 70 (qG.v (sz := 2)) 2 Yb Ya Yc Yn)
    (hS : St w H [Ye, Yn] F) (hm : (qq.m K Yi).wp kr kp)
    (hret : ∀ (Yf : List (qG 2)) (Ym : (List qb)) (Yk : qr) (w : World), kr Ym → (zJ 70 (qG.v (sz := 2)) 2 Yb Yf Yc Yk) → (qD (qf Ye) Ym Yf) → (Yf.length = Ya.length) → St w H [Ye, Yk] F → R (.returned (.tuple ⟨[]⟩)) w) :
    Calls Try.prog 32 ⟨[.slice Yb Ya.length Yc, xE cq [] []]⟩ w R := by
 refine enter Try.func32 rfl Try.ntmps32 rfl hS fun a w hS => ?_
 have hM := hm; clear hm
 rw [qq.m] at hM
 have Yt : ∀ q ∈ Ye, q ∈ Ye := fun _ h => h
 have Ys : Ya.length = Ya.length := rfl
 refine zh <| sM hS rfl fun hS => sM hS rfl fun hS => sO hS (qW (v' := .int .i64 (Yi.length : Int)) (zC rfl Try.runUnderlying68) (by rw [Yl.len])) rfl fun hS => sM hS rfl fun hS => qT hS rfl Try.call38 (zF cq hcq hG K Yi (Yi.length : Int) Ye Yb Yc Ya Yn Yl Yr (hS.st.part 2 [0, 1] (by kernel_rfl)) (qE hM) (fun Yd Yh Yj w hM Yp Yq Yg hst => qP hS.ev hst.appF rfl fun hS => ?_))
 replace hS : Ss _ _ _ H [Ye, Yj] F _ _ := hS
 have Yo := Eq.trans Yg Ys
 replace hS := hS.re 0 (u := .slice Yb Ya.length Yc) (v := .slice Yb Yd.length Yc) rfl (by rw [Yg])
 replace hS := hS.re 4 (u := .slice Yb Ya.length Yc) (v := .slice Yb Yd.length Yc) rfl (by rw [Yg])
 replace hS := hS.re 5 (u := .slice Yb Ya.length Yc) (v := .slice Yb Yd.length Yc) rfl (by rw [Yg])
 refine qK ?_
 exact jH (rs := []) hS rfl rfl (hret Yd Yh Yj _ (qQ hM) Yp Yq Yo (hS.st.pick [0, 1] (by kernel_rfl)))
def xz (p : qr) (x : (List Int)) (vs : List Value) : Prop :=
  ∃ (A0 : Option Addr) (c0 : Nat), vs = [.slice A0 x.length c0] ∧ Pl p (ci .i64) A0 x ∧ x.length ≤ c0
theorem xz.mono {p p' : qr} (hs : ∀ q ∈ p, q ∈ p') {x : (List Int)} {vs : List Value} (h : xz p x vs) : xz p' x vs := by
  obtain ⟨A0, c0, h0, h1, h2⟩ := h
  exact ⟨A0, c0, h0, h1.mono hs, h2⟩
theorem xv {H : zB} {F : List qr} {w : World} {R : Ending → World → Prop} {kr : Unit → Prop} {kp : Value → Prop} (hG : Gl H) (K : Nat) (Ya : Int)
    (hS : St w H [] F) (hm : (zi.m K Ya).wp kr kp)
    (hret : ∀ (Yb : Option Addr) (Yc : Nat) (Yd : qr) (w : World), kr () → (zJ 3 (ci .i64) 1 Yb ([] : List Int) Yc Yd) → St w H [Yd] F → R (.returned (.slice Yb ([] : List Int).length Yc)) w)
    (hpan : ∀ v w, kp v → St w H [] F → R (.panicked [⟨v, false, false⟩]) w) :
    Calls Try.prog 46 ⟨[.slice none 0 0, .int .i64 Ya]⟩ w R := by
 refine enter Try.func46 rfl Try.ntmps46 rfl hS fun a w hS => ?_
 have hM := hm; clear hm
 rw [zi.m] at hM
 refine qo <| sA hS rfl fun hS => ?_
 obtain ⟨Yr, Yp, hS⟩ := hS.nilV 3 (ci .i64) 1
 refine qz <| wp_seq <| qo <| sM hS rfl fun hS => sB hS rfl fun hS => qz <| qv hS rfl hM (fun Yh hM => ?_) (fun Yh hM => ?_)
 ·refine zh ?_
  refine sO hS (Xe rfl Try.runUnderlying9 rfl) rfl fun hS => jn hS rfl <| q6 ?_
  exact ⟨hS.ev.defs, hpan _ _ (vz hM) hS.st.frame⟩
 ·refine wp_skip ?_
  refine qh <| wp_seq <| qo <| sM hS rfl fun hS => sM hS rfl fun hS => sO hS (QQ rfl Try.runUnderlying22) rfl fun hS => sM hS rfl fun hS => sO hS (zC rfl Try.runUnderlying22) rfl fun hS => sB hS rfl fun hS => sB hS rfl fun hS => zb (v := Value.int .i64) (x0 := (ql (Ya - (ql ((0 : Int) - (0 : Int)))))) hS (zG rfl) rfl fun Yq a w hz hS => ?_
  have hM := qA hz hM; clear hz
  refine qz <| qo <| sM hS rfl fun hS => sB hS rfl fun hS => qz <| qv hS rfl hM (fun Yi hM => ?_) (fun Yi hM => ?_)
  ·refine zh ?_
   refine sM hS rfl fun hS => sM hS rfl fun hS => sO hS (QQ rfl Try.runUnderlying22) rfl fun hS => sO hS (XJ rfl Try.runUnderlying22 Try.sizeOf3 (ZS rfl)) rfl fun hS => sM hS rfl fun hS => ?_
   obtain ⟨Yk, hM⟩ := qx hM
   refine XB (g := (ci .i64)) hS rfl rfl Try.runUnderlying22 Try.runUnderlying3 X.el3 rfl rfl Yk rfl fun w Yl Ym Yn Yf Yj Ye hS => sM hS rfl fun hS => sO hS (zC rfl Try.runUnderlying22) rfl fun hS => sO hS (XI rfl Try.runUnderlying22 Try.sizeOf3 (fun _ => ZS rfl) Yj Ye) rfl fun hS => sA hS rfl fun hS => qz <| qo <| sM hS rfl fun hS => sA hS rfl fun hS => qz <| wp_ret ?_
   exact qZ (rs := [4]) hS rfl rfl (hret Yl Ym Yn _ (qQ hM) Yf (hS.st.pick [0] (by kernel_rfl)))
  ·refine wp_skip ?_
   refine qh <| qo <| sM hS rfl fun hS => sA hS rfl fun hS => ?_
   obtain ⟨Yo, Yg, hS⟩ := hS.nilV 3 (ci .i64) 1
   refine qz <| wp_ret ?_
   exact qZ (rs := [4]) hS rfl rfl (hret none (0) Yo _ (qQ hM) Yg (hS.st.pick [0] (by kernel_rfl)))
theorem xJ {H : zB} {F : List qr} {w : World} {R : Ending → World → Prop} {kr : (List Int) → Prop} {kp : Value → Prop} (hG : Gl H) (K : Nat) (Ya : List (List Int)) (Yf : qr) (Yh : Option Addr) (Yi : Nat) (Yc : List (qG 1)) (Yd : qD (xz Yf) Ya Yc) (Yl : Pl Yf (qG.v (sz := 1)) Yh Yc) (YT : Yc.length ≤ Yi)
    (hS : St w H [Yf] F) (hm : (qp.m K Ya).wp kr kp)
    (hret : ∀ (Yu : Option Addr) (Yv : Nat) (Yt : (List Int)) (Yx : qr) (w : World), kr Yt → (zJ 3 (ci .i64) 1 Yu Yt Yv Yx) → St w H [Yf, Yx] F → R (.returned (.slice Yu Yt.length Yv)) w)
    (hpan : ∀ v w, kp v → St w H [] F → R (.panicked [⟨v, false, false⟩]) w) :
    Calls Try.prog 42 ⟨[.slice Yh Yc.length Yi]⟩ w R := by
 refine enter Try.func42 rfl Try.ntmps42 rfl hS fun a w hS => ?_
 have hM := hm; clear hm
 rw [qp.m] at hM
 have YX : ∀ q ∈ Yf, q ∈ Yf := fun _ h => h
 refine qo <| sA hS rfl fun hS => ?_
 obtain ⟨Y7, YS, hS⟩ := hS.nilV 3 (ci .i64) 1
 refine qz <| qo <| sA hS rfl fun hS => qz <| qR (fun a w => ∃ (Yg : Int), Ss 36 [] [(0, .slice Yh Yc.length Yi), (3, .int .i64 Yg)] H [Yf] F a w ∧ (qp.j2 K Ya Yg).wp kr kp) (fun Y3 YB => ?_) ?_
 ·refine wp_seq ?_
  refine zh <| sM hS rfl fun hS => sO hS (qW (v' := .int .i64 (Ya.length : Int)) (zC rfl Try.runUnderlying86) (by rw [Yd.len])) rfl fun hS => sM hS rfl fun hS => qz <| zP <| qU (fun Yy a w => ∃ (Ye : Int) (Yj : Int), Ss 36 [] [(0, .slice Yh Yc.length Yi), (3, .int .i64 Ye), (9, .slice Yh Yc.length Yi), (10, .int .i64 (Ya.length : Int)), (11, .int .i64 Yj)] H [Yf] F a w ∧ (qp.l1 K Ya Yy Ye Yj).wp kr kp) K ?_ ?_ ?_
  ·exact ⟨(0 : Int), (0 : Int), hS.to [1] (by kernel_rfl) ⟨rfl, rfl, rfl, rfl, rfl, trivial⟩, hM⟩
  ·intro a w hI; obtain ⟨_, _, _, hM⟩ := hI; exact qS hM
  ·intro Yy a w hI Y0 YA
   obtain ⟨Ye, Yj, hS, hM⟩ := hI
   rw [qp.l1] at hM
   refine qo <| sB hS rfl fun hS => qz <| wp_seq <| qv hS rfl hM (fun YE hM => ?_) (fun YE hM => ?_)
   ·refine wp_skip ?_
    refine qh <| wp_seq <| zP <| wp_seq <| zh ?_
    obtain ⟨Ym, hM⟩ := qx hM
    refine sO hS (zM rfl rfl Try.runUnderlying86 Try.sizeOf22 (Yl.rd (i := 0) rfl) qG.len rfl (Yd.inb Ym)) rfl fun hS => ?_
    obtain ⟨YY, Y5, YJ, YW, YU⟩ := Yd.get Ym
    refine sO hS (zL rfl (Yl.rd (i := 0) rfl) qG.len (Yd.inb Ym) (by rw [show qG.v (rd Yc Yj) = _ from YJ]; rfl) Try.isAgg22) rfl fun hS => sA hS rfl fun hS => qz <| qo <| sM hS rfl fun hS => sM hS rfl fun hS => sO hS (zC rfl Try.runUnderlying22) rfl fun hS => sB hS rfl fun hS => zb (v := Value.int .i64) (x0 := (ql (Ye + ((rd Ya Yj).length : Int)))) hS (zG rfl) rfl fun Ys a w hz hS => ?_
    have hM := qA hz hM; clear hz
    refine qz <| qo <| sM hS rfl fun hS => sB hS rfl fun hS => qz <| qv hS rfl hM (fun YF hM => ?_) (fun YF hM => ?_)
    ·refine zh ?_
     refine sO hS (Xe rfl Try.runUnderlying9 rfl) rfl fun hS => jn hS rfl <| xr (q6 (q6 (xr (q6 ?_))))
     exact ⟨hS.ev.defs, hpan _ _ (vz hM) hS.st.frame⟩
    ·refine wp_skip ?_
     refine ze (qh ?_)
     refine zh <| sB hS rfl fun hS => sM hS rfl fun hS => qK <| qh ?_
     exact YA _ _ ⟨Ys, (ql (Yj + (1 : Int))), hS.to [0] (by kernel_rfl) ⟨rfl, rfl, rfl, rfl, rfl, trivial⟩, hM⟩
   ·refine wp_exit ?_
    refine qu (qu (qJ (qh ?_)))
    exact YB _ _ ⟨Ye, hS.to [0] (by kernel_rfl) ⟨rfl, rfl, trivial⟩, hM⟩
 ·intro a w hI
  obtain ⟨Yg, hS, hM⟩ := hI
  rw [qp.j2] at hM
  refine qo <| sM hS rfl fun hS => qT hS rfl Try.call46 (xv hG K Yg (hS.st.part 0 [0] (by kernel_rfl)) (qE hM) (fun YM YO Yw w hM YR hst => qP hS.ev hst.appF rfl fun hS => ?_) (fun v w hk hst => yr (q6 (⟨hS.ev.defs, hpan _ _ hk hst.appF.frame⟩))))
  replace hS : Ss _ _ _ H [Yw, Yf] F _ _ := hS
  refine sA hS rfl fun hS => qz <| wp_seq <| qo <| sM hS rfl fun hS => sO hS (qW (v' := .int .i64 (Ya.length : Int)) (zC rfl Try.runUnderlying86) (by rw [Yd.len])) rfl fun hS => sM hS rfl fun hS => qz <| zP <| qU (fun Yz a w => ∃ (Yo : Option Addr) (Yp : Nat) (Yb : (List Int)) (Yq : qr) (Yk : Int), Ss 36 [] [(6, .slice Yo Yb.length Yp), (25, .slice Yh Yc.length Yi), (26, .int .i64 (Ya.length : Int)), (27, .int .i64 Yk)] H [Yf, Yq] F a w ∧ (zJ 3 (ci .i64) 1 Yo Yb Yp Yq) ∧ (qp.l3 K Ya Yz Yb Yk).wp kr kp) K ?_ ?_ ?_
  ·exact ⟨YM, YO, ([] : List Int), Yw, (0 : Int), hS.to [1, 0] (by kernel_rfl) ⟨rfl, rfl, rfl, rfl, trivial⟩, YR, hM⟩
  ·intro a w hI; obtain ⟨_, _, _, _, _, _, _, hM⟩ := hI; exact qS hM
  ·intro Yz a w hI Y4 YC
   obtain ⟨Yo, Yp, Yb, Yq, Yk, hS, Yr, hM⟩ := hI
   rw [qp.l3] at hM
   refine qo <| sB hS rfl fun hS => qz <| wp_seq <| qv hS rfl hM (fun YG hM => ?_) (fun YG hM => ?_)
   ·refine wp_skip ?_
    refine qh <| wp_seq <| zP <| wp_seq <| zh ?_
    obtain ⟨Yn, hM⟩ := qx hM
    refine sO hS (zM rfl rfl Try.runUnderlying86 Try.sizeOf22 (Yl.rd (i := 0) rfl) qG.len rfl (Yd.inb Yn)) rfl fun hS => ?_
    obtain ⟨YZ, Y6, YK, YI, YV⟩ := Yd.get Yn
    refine sO hS (zL rfl (Yl.rd (i := 0) rfl) qG.len (Yd.inb Yn) (by rw [show qG.v (rd Yc Yk) = _ from YK]; rfl) Try.isAgg22) rfl fun hS => sA hS rfl fun hS => qz <| zh <| sM hS rfl fun hS => sM hS rfl fun hS => ?_
    obtain ⟨YH, hM⟩ := qx hM
    refine ZE (ys := (rd Ya Yk)) 1 hS rfl rfl Yr rfl (YI.rd (i := 0) rfl) Try.runUnderlying22 Try.runUnderlying22 X.el3 (fun _ => rfl) rfl zA YH rfl fun YL w YN YP YQ hz YD hS => ?_
    have hM := qA hz hM; clear hz
    refine sA hS rfl fun hS => qK <| ze (qh ?_)
    refine zh <| sB hS rfl fun hS => sM hS rfl fun hS => qK <| qh ?_
    exact YC _ _ ⟨YN, YP, YL, YQ, (ql (Yk + (1 : Int))), hS.to [0, 1] (by kernel_rfl) ⟨rfl, rfl, rfl, rfl, trivial⟩, YD, hM⟩
   ·refine wp_exit ?_
    refine qu (qu (qJ (qh ?_)))
    refine qo <| sM hS rfl fun hS => sA hS rfl fun hS => qz <| wp_ret ?_
    exact qZ (rs := [2]) hS rfl rfl (hret Yo Yp Yb Yq _ (qQ hM) Yr (hS.st.pick [0, 1] (by kernel_rfl)))
theorem vq {H : zB} {F : List qr} {w : World} {R : Ending → World → Prop} {kr : (List qb) → Prop} {kp : Value → Prop} (hG : Gl H) (K : Nat) (Yb : List qb) (Yr : qr) (Yc : Option Addr) (Yg : Nat) (Yd : List (qG 2)) (Jk : qD (qf Yr) Yb Yd) (Ji : Pl Yr (qG.v (sz := 2)) Yc Yd) (Jb : Yd.length ≤ Yg)
    (hS : St w H [Yr] F) (hm : (zq.m K Yb).wp kr kp)
    (hret : ∀ (YW : qr) (YX : Option Addr) (YY : Nat) (YM : List (qG 2)) (Y5 : (List qb)) (YZ : qr) (w : World), kr Y5 → (∀ q ∈ Yr, q ∈ YW) → (zJ 70 (qG.v (sz := 2)) 2 YX YM YY YZ) → (qD (qf YW) Y5 YM) → St w H [YW, YZ] F → R (.returned (.slice YX YM.length YY)) w)
    (hpan : ∀ v w, kp v → St w H [] F → R (.panicked [⟨v, false, false⟩]) w) :
    Calls Try.prog 36 ⟨[.slice Yc Yd.length Yg]⟩ w R := by
 refine enter Try.func36 rfl Try.ntmps36 rfl hS fun a w hS => ?_
 have hM := hm; clear hm
 rw [zq.m] at hM
 have Jm : ∀ q ∈ Yr, q ∈ Yr := fun _ h => h
 refine qo <| sA hS rfl fun hS => ?_
 obtain ⟨JH, Jw, hS⟩ := hS.nilV 70 (qG.v (sz := 2)) 2
 have JB : qD (qf Yr) ([] : List qb) ([] : List (qG 2)) := qD.nil
 refine qz <| qo <| sA hS rfl fun hS => ?_
 obtain ⟨Js, Y7, hS⟩ := hS.nilV 70 (qG.v (sz := 2)) 2
 have Jl : qD (qf Yr) ([] : List qb) ([] : List (qG 2)) := qD.nil
 refine qz <| wp_seq <| qo <| sA hS rfl fun hS => qz <| zP <| qU (fun Y3 a w => ∃ (Ys : qr) (Yp : Option Addr) (Yq : Nat) (Yj : List (qG 2)) (Yz : (List qb)) (YI : qr) (Ya : Int), Ss 42 [] [(0, .slice Yc Yd.length Yg), (3, .slice Yp Yj.length Yq), (4, .int .i64 Ya)] H [Ys, YI] F a w ∧ (∀ q ∈ Yr, q ∈ Ys) ∧ (qD (qf Ys) Yb Yd) ∧ (Pl Ys (qG.v (sz := 2)) Yc Yd) ∧ (Yd.length ≤ Yg) ∧ (zJ 70 (qG.v (sz := 2)) 2 Yp Yj Yq YI) ∧ (qD (qf Ys) Yz Yj) ∧ (zq.l1 K Yb Y3 Yz Ya).wp kr kp) K ?_ ?_ ?_
 ·exact ⟨Yr, none, 0, ([] : List (qG 2)), ([] : List qb), Js, (0 : Int), hS.to [2, 0] (by kernel_rfl) ⟨rfl, rfl, rfl, trivial⟩, Jm, Jk, Ji, Jb, Y7, Jl, hM⟩
 ·intro a w hI; obtain ⟨_, _, _, _, _, _, _, _, _, _, _, _, _, _, hM⟩ := hI; exact qS hM
 ·intro Y3 a w hI JE Y6
  obtain ⟨Ys, Yp, Yq, Yj, Yz, YI, Ya, hS, YA, Ye, Yf, Jc, YR, Yt, hM⟩ := hI
  rw [zq.l1] at hM
  refine wp_seq <| qo <| sM hS rfl fun hS => sB hS rfl fun hS => sM hS rfl fun hS => sO hS (qW (v' := .int .i64 (Yb.length : Int)) (zC rfl Try.runUnderlying68) (by rw [Ye.len])) rfl fun hS => sB hS rfl fun hS => qz <| qv hS rfl hM (fun Ja hM => ?_) (fun Ja hM => ?_)
  ·refine wp_skip ?_
   refine qh <| wp_seq <| zP ?_
   obtain ⟨Yh, hM⟩ := qx hM
   obtain ⟨JC, JF, YK, Jz, Jx⟩ := Ye.get Yh
   obtain ⟨Yi, hM⟩ := qx hM
   obtain ⟨JD, JG, YL, JA, Jy⟩ := Ye.get Yi
   obtain ⟨Yv, Yx, Jp, YC, Jd⟩ := Ye.get Yh
   obtain ⟨Yw, Yy, Jq, YD, Je⟩ := Ye.get Yi
   refine zc (vals := [some (.slice Yp Yj.length Yq), some (.slice Yc Yd.length Yg), some (.int .i64 Ya), some (zn Yc (Int.toNat Ya * 2)), some (zn Yc (Int.toNat Ya * 2 + 0)), some (.int .i64 ((rd Yb Ya).often_)), some (.slice Yc Yd.length Yg), some (.int .i64 Ya), some (.int .i64 (ql (Ya + (1 : Int)))), some (zn Yc (Int.toNat (ql (Ya + (1 : Int))) * 2)), some (zn Yc (Int.toNat (ql (Ya + (1 : Int))) * 2 + 0)), some (.int .i64 ((rd Yb (ql (Ya + (1 : Int)))).often_)), some (.int .i64 (ql ((rd Yb Ya).often_ + (rd Yb (ql (Ya + (1 : Int)))).often_))), some (.slice Yc Yd.length Yg), some (.int .i64 Ya), some (zn Yc (Int.toNat Ya * 2)), some (zn Yc (Int.toNat Ya * 2 + 1)), some (.slice Yv ((rd Yb Ya).symbols_).length Yx), some (.slice Yc Yd.length Yg), some (.int .i64 Ya), some (.int .i64 (ql (Ya + (1 : Int)))), some (zn Yc (Int.toNat (ql (Ya + (1 : Int))) * 2)), some (zn Yc (Int.toNat (ql (Ya + (1 : Int))) * 2 + 1)), some (.slice Yw ((rd Yb (ql (Ya + (1 : Int)))).symbols_).length Yy), none, none, none, none, none, none]) hS xc rfl ?_
   intro l w ho hcl hA hst
   refine vP hA hst ho hcl xS xe 24 [0, 1, 2, 3, 4, 5, 6, 7, 8, 9, 10, 11, 12, 13, 14, 15, 16, 17, 18, 19, 20, 21, 22, 23] rfl rfl rfl rfl rfl (by exact ⟨nM rfl, nM rfl, nM rfl, nQ rfl (by exact qW (zM rfl rfl Try.runUnderlying68 Try.sizeOf70 (Yf.rd (i := 0) rfl) qG.len rfl (Ye.inb Yh)) rfl), nQ rfl (by exact qW (vo rfl (Yf.rd (i := 0) rfl) qG.len rfl (Ye.inb Yh) Try.runUnderlying70 rfl Try.sizeOf3 rfl) rfl), nQ rfl (by exact qW (QN 0 rfl (Yf.rd (i := 0) rfl) qG.len (Ye.inb Yh) (by rw [show qG.v (rd Yd Ya) = _ from YK]; rfl) Try.isAgg3) rfl), nM rfl, nM rfl, nB rfl, nQ rfl (by exact qW (zM rfl rfl Try.runUnderlying68 Try.sizeOf70 (Yf.rd (i := 0) rfl) qG.len rfl (Ye.inb Yi)) rfl), nQ rfl (by exact qW (vo rfl (Yf.rd (i := 0) rfl) qG.len rfl (Ye.inb Yi) Try.runUnderlying70 rfl Try.sizeOf3 rfl) rfl), nQ rfl (by exact qW (QN 0 rfl (Yf.rd (i := 0) rfl) qG.len (Ye.inb Yi) (by rw [show qG.v (rd Yd (ql (Ya + (1 : Int)))) = _ from YL]; rfl) Try.isAgg3) rfl), nB rfl, nM rfl, nM rfl, nQ rfl (by exact qW (zM rfl rfl Try.runUnderlying68 Try.sizeOf70 (Yf.rd (i := 0) rfl) qG.len rfl (Ye.inb Yh)) rfl), nQ rfl (by exact qW (vo rfl (Yf.rd (i := 0) rfl) qG.len rfl (Ye.inb Yh) Try.runUnderlying70 rfl Try.sizeOf22 rfl) rfl), nQ rfl (by exact qW (QN 1 rfl (Yf.rd (i := 0) rfl) qG.len (Ye.inb Yh) (by rw [show qG.v (rd Yd Ya) = _ from Jp]; rfl) Try.isAgg22) rfl), nM rfl, nM rfl, nB rfl, nQ rfl (by exact qW (zM rfl rfl Try.runUnderlying68 Try.sizeOf70 (Yf.rd (i := 0) rfl) qG.len rfl (Ye.inb Yi)) rfl), nQ rfl (by exact qW (vo rfl (Yf.rd (i := 0) rfl) qG.len rfl (Ye.inb Yi) Try.runUnderlying70 rfl Try.sizeOf22 rfl) rfl), nQ rfl (by exact qW (QN 1 rfl (Yf.rd (i := 0) rfl) qG.len (Ye.inb Yi) (by rw [show qG.v (rd Yd (ql (Ya + (1 : Int)))) = _ from Jq]; rfl) Try.isAgg22) rfl), trivial⟩) fun D l a w ho hcl hav hpre hm hE hk hA hst => ?_
   have hS := (Ss.mk hE hst).env2 (e' := [(29, .slice Yv ((rd Yb Ya).symbols_).length Yx), (35, .slice Yw ((rd Yb (ql (Ya + (1 : Int)))).symbols_).length Yy)]) ⟨rfl, rfl, trivial⟩
   refine zr rfl ?_
   obtain ⟨Yo, hrw⟩ : ∃ r, r = ([(⟨[.slice Yv ((rd Yb Ya).symbols_).length Yx], by simp, by simp [Value.oneCell']⟩ : qG 1), (⟨[.slice Yw ((rd Yb (ql (Ya + (1 : Int)))).symbols_).length Yy], by simp, by simp [Value.oneCell']⟩ : qG 1)] : List (qG 1)) := ⟨_, rfl⟩
   have YE : qD (xz Ys) ([(rd Yb Ya).symbols_, (rd Yb (ql (Ya + (1 : Int)))).symbols_] : List (List Int)) Yo := by rw [hrw]; exact (qD.cons (show xz Ys _ _ from ⟨Yv, Yx, rfl, YC, Jd⟩) (qD.cons (show xz Ys _ _ from ⟨Yw, Yy, rfl, YD, Je⟩) qD.nil))
   refine Qc (g := (qG.v (sz := 1))) Yo [.slice Yv ((rd Yb Ya).symbols_).length Yx, .slice Yw ((rd Yb (ql (Ya + (1 : Int)))).symbols_).length Yy] hS Try.runUnderlying86 Try.sizeOf22 X.el22 rfl rfl rfl (by simp [Value.cells]) (by rw [hrw]; rfl) (by rw [hrw]; rfl) rfl rfl rfl fun w YF YG JI YS hS => ?_
   clear hrw
   refine qz ?_
   replace hst := hS.st
   obtain ⟨hcl, hmust, hav2, hA⟩ := dn (vals' := [some (.slice Yp Yj.length Yq), some (.slice Yc Yd.length Yg), some (.int .i64 Ya), some (zn Yc (Int.toNat Ya * 2)), some (zn Yc (Int.toNat Ya * 2 + 0)), some (.int .i64 ((rd Yb Ya).often_)), some (.slice Yc Yd.length Yg), some (.int .i64 Ya), some (.int .i64 (ql (Ya + (1 : Int)))), some (zn Yc (Int.toNat (ql (Ya + (1 : Int))) * 2)), some (zn Yc (Int.toNat (ql (Ya + (1 : Int))) * 2 + 0)), some (.int .i64 ((rd Yb (ql (Ya + (1 : Int)))).often_)), some (.int .i64 (ql ((rd Yb Ya).often_ + (rd Yb (ql (Ya + (1 : Int)))).often_))), some (.slice Yc Yd.length Yg), some (.int .i64 Ya), some (zn Yc (Int.toNat Ya * 2)), some (zn Yc (Int.toNat Ya * 2 + 1)), some (.slice Yv ((rd Yb Ya).symbols_).length Yx), some (.slice Yc Yd.length Yg), some (.int .i64 Ya), some (.int .i64 (ql (Ya + (1 : Int)))), some (zn Yc (Int.toNat (ql (Ya + (1 : Int))) * 2)), some (zn Yc (Int.toNat (ql (Ya + (1 : Int))) * 2 + 1)), some (.slice Yw ((rd Yb (ql (Ya + (1 : Int)))).symbols_).length Yy), some (.slice YF Yo.length YG), none, none, none, none, none]) 24 [(17, 24), (23, 24), (16, 17), (22, 23), (15, 16), (21, 22), (13, 15), (14, 15), (18, 21), (20, 21), (19, 20)] hA hcl hav hm hpre hk rfl rfl rfl rfl rfl rfl rfl
   clear hm hav
   refine vP hA hst ho hcl hav2 hmust 25 [0, 1, 2, 3, 4, 5, 6, 7, 8, 9, 10, 11, 12] rfl rfl rfl rfl rfl (by exact ⟨nM rfl, nM rfl, nM rfl, nQ rfl (by exact qW (zM rfl rfl Try.runUnderlying68 Try.sizeOf70 (Yf.rd (i := 1) rfl) qG.len rfl (Ye.inb Yh)) rfl), nQ rfl (by exact qW (vo rfl (Yf.rd (i := 1) rfl) qG.len rfl (Ye.inb Yh) Try.runUnderlying70 rfl Try.sizeOf3 rfl) rfl), nQ rfl (by exact qW (QN 0 rfl (Yf.rd (i := 1) rfl) qG.len (Ye.inb Yh) (by rw [show qG.v (rd Yd Ya) = _ from YK]; rfl) Try.isAgg3) rfl), nM rfl, nM rfl, nB rfl, nQ rfl (by exact qW (zM rfl rfl Try.runUnderlying68 Try.sizeOf70 (Yf.rd (i := 1) rfl) qG.len rfl (Ye.inb Yi)) rfl), nQ rfl (by exact qW (vo rfl (Yf.rd (i := 1) rfl) qG.len rfl (Ye.inb Yi) Try.runUnderlying70 rfl Try.sizeOf3 rfl) rfl), nQ rfl (by exact qW (QN 0 rfl (Yf.rd (i := 1) rfl) qG.len (Ye.inb Yi) (by rw [show qG.v (rd Yd (ql (Ya + (1 : Int)))) = _ from YL]; rfl) Try.isAgg3) rfl), nB rfl, trivial⟩) fun D l a w ho hcl hav hpre hm hE hk hA hst => ?_
   have hS := (Ss.mk hE hst).env2 (e' := [(36, .slice YF Yo.length YG)]) ⟨rfl, trivial⟩
   refine zr rfl ?_
   replace hS := hS.front [0, 1, 2] (by kernel_rfl)
   obtain ⟨Y4, Jn, Yu, hS⟩ := hS.poolF
   have Jf := YS.cap qG.len rfl
   have YJ := YS.pl.mono Jn
   replace Yf := Yf.mono Yu
   replace YC := YC.mono Yu
   replace YD := YD.mono Yu
   replace Ye := qD.mono (fun _ _ h => qf.mono Yu h) Ye
   replace Yt := qD.mono (fun _ _ h => qf.mono Yu h) Yt
   replace YE := qD.mono (fun _ _ h => xz.mono Yu h) YE
   replace YA := fun q h => Yu q (YA q h)
   refine qT hS rfl Try.call42 (xJ hG K ([(rd Yb Ya).symbols_, (rd Yb (ql (Ya + (1 : Int)))).symbols_] : List (List Int)) Y4 YF YG Yo YE YJ Jf (hS.st.part 1 [0, 1] (by kernel_rfl)) (qE hM) (fun Yl Ym Yk Jt w hM Y0 hst => qP hS.ev hst.appF rfl fun hS => ?_) (fun v w hk hst => yr (q6 (xr (q6 (q6 (xr (q6 (⟨hS.ev.defs, hpan _ _ hk hst.appF.frame⟩)))))))))
   replace hS : Ss _ _ _ H [Y4, Jt, YI] F _ _ := hS
   refine qz ?_
   replace hst := hS.st
   obtain ⟨hcl, hmust, hav2, hA⟩ := dn (vals' := [some (.slice Yp Yj.length Yq), some (.slice Yc Yd.length Yg), some (.int .i64 Ya), some (zn Yc (Int.toNat Ya * 2)), some (zn Yc (Int.toNat Ya * 2 + 0)), some (.int .i64 ((rd Yb Ya).often_)), some (.slice Yc Yd.length Yg), some (.int .i64 Ya), some (.int .i64 (ql (Ya + (1 : Int)))), some (zn Yc (Int.toNat (ql (Ya + (1 : Int))) * 2)), some (zn Yc (Int.toNat (ql (Ya + (1 : Int))) * 2 + 0)), some (.int .i64 ((rd Yb (ql (Ya + (1 : Int)))).often_)), some (.int .i64 (ql ((rd Yb Ya).often_ + (rd Yb (ql (Ya + (1 : Int)))).often_))), some (.slice Yc Yd.length Yg), some (.int .i64 Ya), some (zn Yc (Int.toNat Ya * 2)), some (zn Yc (Int.toNat Ya * 2 + 1)), some (.slice Yv ((rd Yb Ya).symbols_).length Yx), some (.slice Yc Yd.length Yg), some (.int .i64 Ya), some (.int .i64 (ql (Ya + (1 : Int)))), some (zn Yc (Int.toNat (ql (Ya + (1 : Int))) * 2)), some (zn Yc (Int.toNat (ql (Ya + (1 : Int))) * 2 + 1)), some (.slice Yw ((rd Yb (ql (Ya + (1 : Int)))).symbols_).length Yy), some (.slice YF Yo.length YG), some (.slice Yl Yk.length Ym), some (.agg ⟨[.int .i64 (ql ((rd Yb Ya).often_ + (rd Yb (ql (Ya + (1 : Int)))).often_)), .slice Yl Yk.length Ym]⟩), none, none, none]) 25 [(24, 25), (17, 24), (23, 24), (16, 17), (22, 23), (15, 16), (21, 22), (13, 15), (14, 15), (18, 21), (20, 21), (19, 20)] hA hcl hav hm hpre hk rfl rfl rfl rfl rfl rfl rfl
   clear hm hav
   refine vP hA hst ho hcl hav2 hmust 27 [0, 1, 2, 3, 4, 5, 6, 7, 8, 9, 10, 11, 12, 26] rfl rfl rfl rfl rfl (by exact ⟨nM rfl, nM rfl, nM rfl, nQ rfl (by exact qW (zM rfl rfl Try.runUnderlying68 Try.sizeOf70 (Yf.rd (i := 0) rfl) qG.len rfl (Ye.inb Yh)) rfl), nQ rfl (by exact qW (vo rfl (Yf.rd (i := 0) rfl) qG.len rfl (Ye.inb Yh) Try.runUnderlying70 rfl Try.sizeOf3 rfl) rfl), nQ rfl (by exact qW (QN 0 rfl (Yf.rd (i := 0) rfl) qG.len (Ye.inb Yh) (by rw [show qG.v (rd Yd Ya) = _ from YK]; rfl) Try.isAgg3) rfl), nM rfl, nM rfl, nB rfl, nQ rfl (by exact qW (zM rfl rfl Try.runUnderlying68 Try.sizeOf70 (Yf.rd (i := 0) rfl) qG.len rfl (Ye.inb Yi)) rfl), nQ rfl (by exact qW (vo rfl (Yf.rd (i := 0) rfl) qG.len rfl (Ye.inb Yi) Try.runUnderlying70 rfl Try.sizeOf3 rfl) rfl), nQ rfl (by exact qW (QN 0 rfl (Yf.rd (i := 0) rfl) qG.len (Ye.inb Yi) (by rw [show qG.v (rd Yd (ql (Ya + (1 : Int)))) = _ from YL]; rfl) Try.isAgg3) rfl), nB rfl, nQ rfl (by exact qW (Xa ([.int .i64 (ql ((rd Yb Ya).often_ + (rd Yb (ql (Ya + (1 : Int)))).often_)), .slice Yl Yk.length Ym]) [(0, 1), (1, 1)] Try.zeroValue70 Try.runUnderlying70 (by intro w; simp [Try.sizeOf22, Try.sizeOf3]) rfl rfl) rfl), trivial⟩) fun D l a w ho hcl hav hpre hm hE hk hA hst => ?_
   have hS := (Ss.mk hE hst).env2 (e' := [(38, .agg ⟨[.int .i64 (ql ((rd Yb Ya).often_ + (rd Yb (ql (Ya + (1 : Int)))).often_)), .slice Yl Yk.length Ym]⟩)]) ⟨rfl, trivial⟩
   refine zr rfl ?_
   replace hS := hS.front [1, 0, 2] (by kernel_rfl)
   obtain ⟨YV, Jo, Yn, hS⟩ := hS.poolF
   have Jg := Y0.cap (fun _ => rfl) rfl
   have Jj := Y0.pl.mono Jo
   replace Yf := Yf.mono Yn
   replace YC := YC.mono Yn
   replace YD := YD.mono Yn
   replace YJ := YJ.mono Yn
   replace Ye := qD.mono (fun _ _ h => qf.mono Yn h) Ye
   replace Yt := qD.mono (fun _ _ h => qf.mono Yn h) Yt
   replace YE := qD.mono (fun _ _ h => xz.mono Yn h) YE
   replace YA := fun q h => Yn q (YA q h)
   obtain ⟨YB, hrw⟩ : ∃ r, r = ([(⟨[.int .i64 (ql ((rd Yb Ya).often_ + (rd Yb (ql (Ya + (1 : Int)))).often_)), .slice Yl Yk.length Ym], by simp, by simp [Value.oneCell']⟩ : qG 2)] : List (qG 2)) := ⟨_, rfl⟩
   have YT : qD (qf YV) ([(qb.mk (ql ((rd Yb Ya).often_ + (rd Yb (ql (Ya + (1 : Int)))).often_)) Yk)] : List qb) YB := by rw [hrw]; exact (qD.cons (show qf YV _ _ from ⟨Yl, Ym, rfl, Jj, Jg⟩) qD.nil)
   refine Qc (g := (qG.v (sz := 2))) YB [.agg ⟨[.int .i64 (ql ((rd Yb Ya).often_ + (rd Yb (ql (Ya + (1 : Int)))).often_)), .slice Yl Yk.length Ym]⟩] hS Try.runUnderlying68 Try.sizeOf70 X.el70 rfl rfl rfl (by simp [Value.cells]) (by rw [hrw]; rfl) (by rw [hrw]; rfl) rfl rfl rfl fun w YP YQ JJ Y8 hS => ?_
   clear hrw
   refine qz ?_
   replace hst := hS.st
   obtain ⟨hcl, hmust, hav2, hA⟩ := dn (vals' := [some (.slice Yp Yj.length Yq), some (.slice Yc Yd.length Yg), some (.int .i64 Ya), some (zn Yc (Int.toNat Ya * 2)), some (zn Yc (Int.toNat Ya * 2 + 0)), some (.int .i64 ((rd Yb Ya).often_)), some (.slice Yc Yd.length Yg), some (.int .i64 Ya), some (.int .i64 (ql (Ya + (1 : Int)))), some (zn Yc (Int.toNat (ql (Ya + (1 : Int))) * 2)), some (zn Yc (Int.toNat (ql (Ya + (1 : Int))) * 2 + 0)), some (.int .i64 ((rd Yb (ql (Ya + (1 : Int)))).often_)), some (.int .i64 (ql ((rd Yb Ya).often_ + (rd Yb (ql (Ya + (1 : Int)))).often_))), some (.slice Yc Yd.length Yg), some (.int .i64 Ya), some (zn Yc (Int.toNat Ya * 2)), some (zn Yc (Int.toNat Ya * 2 + 1)), some (.slice Yv ((rd Yb Ya).symbols_).length Yx), some (.slice Yc Yd.length Yg), some (.int .i64 Ya), some (.int .i64 (ql (Ya + (1 : Int)))), some (zn Yc (Int.toNat (ql (Ya + (1 : Int))) * 2)), some (zn Yc (Int.toNat (ql (Ya + (1 : Int))) * 2 + 1)), some (.slice Yw ((rd Yb (ql (Ya + (1 : Int)))).symbols_).length Yy), some (.slice YF Yo.length YG), some (.slice Yl Yk.length Ym), some (.agg ⟨[.int .i64 (ql ((rd Yb Ya).often_ + (rd Yb (ql (Ya + (1 : Int)))).often_)), .slice Yl Yk.length Ym]⟩), some (.slice YP YB.length YQ), none, none]) 27 [(26, 27), (12, 26), (25, 26), (5, 12), (11, 12), (24, 25), (4, 5), (10, 11), (17, 24), (23, 24), (3, 4), (9, 10), (16, 17), (22, 23), (1, 3), (2, 3), (6, 9), (8, 9), (15, 16), (21, 22), (7, 8), (13, 15), (14, 15), (18, 21), (20, 21), (19, 20)] hA hcl hav hm hpre hk rfl rfl rfl rfl rfl rfl rfl
   clear hm hav
   refine vP hA hst ho hcl hav2 hmust 28 [0] rfl rfl rfl rfl rfl (by exact ⟨nM rfl, trivial⟩) fun D l a w ho hcl hav hpre hm hE hk hA hst => ?_
   have hS := (Ss.mk hE hst).env2 (e' := [(12, .slice Yp Yj.length Yq), (39, .slice YP YB.length YQ)]) ⟨rfl, rfl, trivial⟩
   refine zr rfl ?_
   obtain ⟨Jh, hM⟩ := qx hM
   refine ZE (ys := YB) 2 hS rfl rfl YR rfl (Y8.rd (i := 0) rfl) Try.runUnderlying68 Try.runUnderlying68 X.el70 qG.len rfl jm (Yt.room YT Jh) rfl fun YH w YN YO Ju hz Y9 hS => ?_
   obtain ⟨Jr, hzm⟩ := yd (Yz ++ ([(qb.mk (ql ((rd Yb Ya).often_ + (rd Yb (ql (Ya + (1 : Int)))).often_)) Yk)] : List qb))
   replace hM := qA hzm hM
   have YU := qD.append Yt YT
   rw [← hz, ← hzm] at YU; clear hz hzm
   refine qz ?_
   replace hst := hS.st
   obtain ⟨hcl, hmust, hav2, hA⟩ := dn (vals' := [some (.slice Yp Yj.length Yq), some (.slice Yc Yd.length Yg), some (.int .i64 Ya), some (zn Yc (Int.toNat Ya * 2)), some (zn Yc (Int.toNat Ya * 2 + 0)), some (.int .i64 ((rd Yb Ya).often_)), some (.slice Yc Yd.length Yg), some (.int .i64 Ya), some (.int .i64 (ql (Ya + (1 : Int)))), some (zn Yc (Int.toNat (ql (Ya + (1 : Int))) * 2)), some (zn Yc (Int.toNat (ql (Ya + (1 : Int))) * 2 + 0)), some (.int .i64 ((rd Yb (ql (Ya + (1 : Int)))).often_)), some (.int .i64 (ql ((rd Yb Ya).often_ + (rd Yb (ql (Ya + (1 : Int)))).often_))), some (.slice Yc Yd.length Yg), some (.int .i64 Ya), some (zn Yc (Int.toNat Ya * 2)), some (zn Yc (Int.toNat Ya * 2 + 1)), some (.slice Yv ((rd Yb Ya).symbols_).length Yx), some (.slice Yc Yd.length Yg), some (.int .i64 Ya), some (.int .i64 (ql (Ya + (1 : Int)))), some (zn Yc (Int.toNat (ql (Ya + (1 : Int))) * 2)), some (zn Yc (Int.toNat (ql (Ya + (1 : Int))) * 2 + 1)), some (.slice Yw ((rd Yb (ql (Ya + (1 : Int)))).symbols_).length Yy), some (.slice YF Yo.length YG), some (.slice Yl Yk.length Ym), some (.agg ⟨[.int .i64 (ql ((rd Yb Ya).often_ + (rd Yb (ql (Ya + (1 : Int)))).often_)), .slice Yl Yk.length Ym]⟩), some (.slice YP YB.length YQ), some (.slice YN YH.length YO), some (.slice YN YH.length YO)]) 28 [(0, 28), (25, 28), (27, 28), (24, 25), (26, 27), (17, 24), (23, 24), (12, 26), (16, 17), (22, 23), (5, 12), (11, 12), (15, 16), (21, 22), (4, 5), (10, 11), (13, 15), (14, 15), (18, 21), (20, 21), (3, 4), (9, 10), (19, 20), (1, 3), (2, 3), (6, 9), (8, 9), (7, 8)] hA hcl hav hm hpre hk rfl rfl rfl rfl rfl rfl rfl
   clear hm hav
   refine x8 hA hst ho hcl hmust [29] rfl rfl rfl (by exact ⟨nA rfl, trivial⟩) fun a w hS => ?_
   replace hS := hS.env2 (e' := [(0, .slice Yc Yd.length Yg), (3, .slice YN YH.length YO), (4, .int .i64 Ya)]) ⟨rfl, rfl, rfl, trivial⟩
   refine ze (qh ?_)
   refine zh <| sM hS rfl fun hS => sB hS rfl fun hS => zb (v := Value.int .i64) (x0 := (ql (Ya + (2 : Int)))) hS (zG rfl) rfl fun Jv a w hz hS => ?_
   have hM := qA hz hM; clear hz
   refine qK <| qh ?_
   exact Y6 _ _ ⟨YV, YN, YO, YH, Jr, Ju, Jv, hS.to [1, 2] (by kernel_rfl) ⟨rfl, rfl, rfl, trivial⟩, YA, Ye, Yf, Jc, Y9, YU, hM⟩
  ·refine wp_exit ?_
   refine qu (qu (qJ (qh ?_)))
   refine qo <| sM hS rfl fun hS => sA hS rfl fun hS => qz <| wp_ret ?_
   exact qZ (rs := [2]) hS rfl rfl (hret Ys Yp Yq Yj Yz YI _ (qQ hM) YA YR Yt (hS.st.pick [0, 1] (by kernel_rfl)))
def zm (p : qr) (x : (List qb)) (vs : List Value) : Prop :=
  ∃ (A0 : Option Addr) (c0 : Nat) (r0 : List (qG 2)), vs = [.slice A0 r0.length c0] ∧ qD (qf p) x r0 ∧ Pl p (qG.v (sz := 2)) A0 r0 ∧ r0.length ≤ c0
theorem zm.mono {p p' : qr} (hs : ∀ q ∈ p, q ∈ p') {x : (List qb)} {vs : List Value} (h : zm p x vs) : zm p' x vs := by
  obtain ⟨A0, c0, r0, h0, h1, h2, h3⟩ := h
  exact ⟨A0, c0, r0, h0, qD.mono (fun _ _ h => qf.mono hs h) h1, h2.mono hs, h3⟩
theorem zD {H : zB} {F : List qr} {w : World} {R : Ending → World → Prop} {kr : Unit → Prop} {kp : Value → Prop} (hG : Gl H) (K : Nat) (Yb : Int)
    (hS : St w H [] F) (hm : (qL.m K Yb).wp kr kp)
    (hret : ∀ (Yf : qr) (Yc : Option Addr) (Yd : Nat) (Ye : qr) (w : World), kr () → (zJ 70 (qG.v (sz := 2)) 2 Yc ([] : List (qG 2)) Yd Ye) → (qD (qf Yf) ([] : List qb) ([] : List (qG 2))) → St w H [Yf, Ye] F → R (.returned (.slice Yc ([] : List (qG 2)).length Yd)) w)
    (hpan : ∀ v w, kp v → St w H [] F → R (.panicked [⟨v, false, false⟩]) w) :
    Calls Try.prog 45 ⟨[.slice none 0 0, .int .i64 Yb]⟩ w R := by
 refine enter Try.func45 rfl Try.ntmps45 rfl hS fun a w hS => ?_
 have hM := hm; clear hm
 rw [qL.m] at hM
 refine qo <| sA hS rfl fun hS => ?_
 obtain ⟨Ya, hS⟩ := hS.pool0
 obtain ⟨Yw, Yt, hS⟩ := hS.nilV 70 (qG.v (sz := 2)) 2
 have Yu : qD (qf Ya) ([] : List qb) ([] : List (qG 2)) := qD.nil
 refine qz <| wp_seq <| qo <| sM hS rfl fun hS => sB hS rfl fun hS => qz <| qv hS rfl hM (fun Yj hM => ?_) (fun Yj hM => ?_)
 ·refine zh ?_
  refine sO hS (Xe rfl Try.runUnderlying9 rfl) rfl fun hS => jn hS rfl <| q6 ?_
  exact ⟨hS.ev.defs, hpan _ _ (vz hM) hS.st.frame⟩
 ·refine wp_skip ?_
  refine qh <| wp_seq <| qo <| sM hS rfl fun hS => sM hS rfl fun hS => sO hS (QQ rfl Try.runUnderlying68) rfl fun hS => sM hS rfl fun hS => sO hS (zC rfl Try.runUnderlying68) rfl fun hS => sB hS rfl fun hS => sB hS rfl fun hS => zb (v := Value.int .i64) (x0 := (ql (Yb - (ql ((0 : Int) - (0 : Int)))))) hS (zG rfl) rfl fun Yv a w hz hS => ?_
  have hM := qA hz hM; clear hz
  refine qz <| qo <| sM hS rfl fun hS => sB hS rfl fun hS => qz <| qv hS rfl hM (fun Yk hM => ?_) (fun Yk hM => ?_)
  ·refine zh ?_
   refine sM hS rfl fun hS => sM hS rfl fun hS => sO hS (QQ rfl Try.runUnderlying68) rfl fun hS => sO hS (XJ rfl Try.runUnderlying68 Try.sizeOf70 (ZS rfl)) rfl fun hS => sM hS rfl fun hS => ?_
   obtain ⟨Ym, hM⟩ := qx hM
   refine XB (g := (qG.v (sz := 2))) hS rfl rfl Try.runUnderlying68 Try.runUnderlying3 X.el70 rfl rfl Ym rfl fun w Yp Yq Yr Yh Yl Yg hS => ?_
   have Yn : qD (qf Ya) ([] : List qb) ([] : List (qG 2)) := qD.nil
   refine sM hS rfl fun hS => sO hS (zC rfl Try.runUnderlying68) rfl fun hS => sO hS (XI rfl Try.runUnderlying68 Try.sizeOf70 (fun _ => ZS rfl) Yl Yg) rfl fun hS => sA hS rfl fun hS => qz <| qo <| sM hS rfl fun hS => sA hS rfl fun hS => qz <| wp_ret ?_
   exact qZ (rs := [4]) hS rfl rfl (hret Ya Yp Yq Yr _ (qQ hM) Yh Yn (hS.st.pick [2, 0] (by kernel_rfl)))
  ·refine wp_skip ?_
   refine qh <| qo <| sM hS rfl fun hS => sA hS rfl fun hS => ?_
   obtain ⟨Ys, Yi, hS⟩ := hS.nilV 70 (qG.v (sz := 2)) 2
   have Yo : qD (qf Ya) ([] : List qb) ([] : List (qG 2)) := qD.nil
   refine qz <| wp_ret ?_
   exact qZ (rs := [4]) hS rfl rfl (hret Ya none (0) Ys _ (qQ hM) Yi Yo (hS.st.pick [2, 0] (by kernel_rfl)))
theorem zR {H : zB} {F : List qr} {w : World} {R : Ending → World → Prop} {kr : (List qb) → Prop} {kp : Value → Prop} (hG : Gl H) (K : Nat) (Ya : List (List qb)) (Yf : qr) (Yk : Option Addr) (Yl : Nat) (Yd : List (qG 1)) (Yc : qD (zm Yf) Ya Yd) (Yh : Pl Yf (qG.v (sz := 1)) Yk Yd) (Ja : Yd.length ≤ Yl)
    (hS : St w H [Yf] F) (hm : (qi.m K Ya).wp kr kp)
    (hret : ∀ (YB : qr) (YD : Option Addr) (YE : Nat) (Ys : List (qG 2)) (YJ : (List qb)) (YG : qr) (w : World), kr YJ → (∀ q ∈ Yf, q ∈ YB) → (zJ 70 (qG.v (sz := 2)) 2 YD Ys YE YG) → (qD (qf YB) YJ Ys) → St w H [YB, YG] F → R (.returned (.slice YD Ys.length YE)) w)
    (hpan : ∀ v w, kp v → St w H [] F → R (.panicked [⟨v, false, false⟩]) w) :
    Calls Try.prog 40 ⟨[.slice Yk Yd.length Yl]⟩ w R := by
 refine enter Try.func40 rfl Try.ntmps40 rfl hS fun a w hS => ?_
 have hM := hm; clear hm
 rw [qi.m] at hM
 have Yq : ∀ q ∈ Yf, q ∈ Yf := fun _ h => h
 refine qo <| sA hS rfl fun hS => ?_
 obtain ⟨Jn, Y9, hS⟩ := hS.nilV 70 (qG.v (sz := 2)) 2
 have Je : qD (qf Yf) ([] : List qb) ([] : List (qG 2)) := qD.nil
 refine qz <| qo <| sA hS rfl fun hS => qz <| qR (fun a w => ∃ (Yg : Int), Ss 36 [] [(0, .slice Yk Yd.length Yl), (3, .int .i64 Yg)] H [Yf] F a w ∧ (qi.j2 K Ya Yg).wp kr kp) (fun Jj YL => ?_) ?_
 ·refine wp_seq ?_
  refine zh <| sM hS rfl fun hS => sO hS (qW (v' := .int .i64 (Ya.length : Int)) (zC rfl Try.runUnderlying84) (by rw [Yc.len])) rfl fun hS => sM hS rfl fun hS => qz <| zP <| qU (fun YH a w => ∃ (Ye : Int) (Yj : Int), Ss 36 [] [(0, .slice Yk Yd.length Yl), (3, .int .i64 Ye), (9, .slice Yk Yd.length Yl), (10, .int .i64 (Ya.length : Int)), (11, .int .i64 Yj)] H [Yf] F a w ∧ (qi.l1 K Ya YH Ye Yj).wp kr kp) K ?_ ?_ ?_
  ·exact ⟨(0 : Int), (0 : Int), hS.to [1] (by kernel_rfl) ⟨rfl, rfl, rfl, rfl, rfl, trivial⟩, hM⟩
  ·intro a w hI; obtain ⟨_, _, _, hM⟩ := hI; exact qS hM
  ·intro YH a w hI Ji YK
   obtain ⟨Ye, Yj, hS, hM⟩ := hI
   rw [qi.l1] at hM
   refine qo <| sB hS rfl fun hS => qz <| wp_seq <| qv hS rfl hM (fun YO hM => ?_) (fun YO hM => ?_)
   ·refine wp_skip ?_
    refine qh <| wp_seq <| zP <| wp_seq <| zh ?_
    obtain ⟨Yn, hM⟩ := qx hM
    refine sO hS (zM rfl rfl Try.runUnderlying84 Try.sizeOf68 (Yh.rd (i := 0) rfl) qG.len rfl (Yc.inb Yn)) rfl fun hS => ?_
    obtain ⟨Jg, Jl, Jf, YV, YT, Jd, Jb⟩ := Yc.get Yn
    refine sO hS (zL rfl (Yh.rd (i := 0) rfl) qG.len (Yc.inb Yn) (by rw [show qG.v (rd Yd Yj) = _ from YV]; rfl) Try.isAgg68) rfl fun hS => sA hS rfl fun hS => qz <| qo <| sM hS rfl fun hS => sM hS rfl fun hS => sO hS (qW (v' := .int .i64 ((rd Ya Yj).length : Int)) (zC rfl Try.runUnderlying68) (by rw [YT.len])) rfl fun hS => sB hS rfl fun hS => zb (v := Value.int .i64) (x0 := (ql (Ye + ((rd Ya Yj).length : Int)))) hS (zG rfl) rfl fun YC a w hz hS => ?_
    have hM := qA hz hM; clear hz
    refine qz <| qo <| sM hS rfl fun hS => sB hS rfl fun hS => qz <| qv hS rfl hM (fun YP hM => ?_) (fun YP hM => ?_)
    ·refine zh ?_
     refine sO hS (Xe rfl Try.runUnderlying9 rfl) rfl fun hS => jn hS rfl <| xr (q6 (q6 (xr (q6 ?_))))
     exact ⟨hS.ev.defs, hpan _ _ (vz hM) hS.st.frame⟩
    ·refine wp_skip ?_
     refine ze (qh ?_)
     refine zh <| sB hS rfl fun hS => sM hS rfl fun hS => qK <| qh ?_
     exact YK _ _ ⟨YC, (ql (Yj + (1 : Int))), hS.to [0] (by kernel_rfl) ⟨rfl, rfl, rfl, rfl, rfl, trivial⟩, hM⟩
   ·refine wp_exit ?_
    refine qu (qu (qJ (qh ?_)))
    exact YL _ _ ⟨Ye, hS.to [0] (by kernel_rfl) ⟨rfl, rfl, trivial⟩, hM⟩
 ·intro a w hI
  obtain ⟨Yg, hS, hM⟩ := hI
  rw [qi.j2] at hM
  refine qo <| sM hS rfl fun hS => qT hS rfl Try.call45 (zD hG K Yg (hS.st.part 0 [0] (by kernel_rfl)) (qE hM) (fun Y8 Y0 Y4 YF w hM Y7 Yw hst => qP hS.ev hst.appF rfl fun hS => ?_) (fun v w hk hst => yr (q6 (⟨hS.ev.defs, hpan _ _ hk hst.appF.frame⟩))))
  replace hS : Ss _ _ _ H [Y8, YF, Yf] F _ _ := hS
  replace hS := hS.front [0, 2, 1] (by kernel_rfl)
  obtain ⟨YA, YU, Yr, hS⟩ := hS.poolF
  replace Yw := qD.mono (fun _ _ h => qf.mono YU h) Yw
  replace Yh := Yh.mono Yr
  replace Yc := qD.mono (fun _ _ h => zm.mono Yr h) Yc
  replace Yq := fun q h => Yr q (Yq q h)
  refine sA hS rfl fun hS => qz <| wp_seq <| qo <| sM hS rfl fun hS => sO hS (qW (v' := .int .i64 (Ya.length : Int)) (zC rfl Try.runUnderlying84) (by rw [Yc.len])) rfl fun hS => sM hS rfl fun hS => qz <| zP <| qU (fun YI a w => ∃ (Yt : Option Addr) (Yu : Nat) (Yi : List (qG 2)) (Yb : (List qb)) (Yv : qr) (Ym : Int), Ss 36 [] [(6, .slice Yt Yi.length Yu), (25, .slice Yk Yd.length Yl), (26, .int .i64 (Ya.length : Int)), (27, .int .i64 Ym)] H [YA, Yv] F a w ∧ (zJ 70 (qG.v (sz := 2)) 2 Yt Yi Yu Yv) ∧ (qD (qf YA) Yb Yi) ∧ (qi.l3 K Ya YI Yb Ym).wp kr kp) K ?_ ?_ ?_
  ·exact ⟨Y0, Y4, ([] : List (qG 2)), ([] : List qb), YF, (0 : Int), hS.to [0, 1] (by kernel_rfl) ⟨rfl, rfl, rfl, rfl, trivial⟩, Y7, Yw, hM⟩
  ·intro a w hI; obtain ⟨_, _, _, _, _, _, _, _, _, hM⟩ := hI; exact qS hM
  ·intro YI a w hI Jk YM
   obtain ⟨Yt, Yu, Yi, Yb, Yv, Ym, hS, Yx, Yp, hM⟩ := hI
   rw [qi.l3] at hM
   refine qo <| sB hS rfl fun hS => qz <| wp_seq <| qv hS rfl hM (fun YQ hM => ?_) (fun YQ hM => ?_)
   ·refine wp_skip ?_
    refine qh <| wp_seq <| zP <| wp_seq <| zh ?_
    obtain ⟨Yo, hM⟩ := qx hM
    refine sO hS (zM rfl rfl Try.runUnderlying84 Try.sizeOf68 (Yh.rd (i := 0) rfl) qG.len rfl (Yc.inb Yo)) rfl fun hS => ?_
    obtain ⟨Jh, Jm, YX, YW, Yy, YS, Jc⟩ := Yc.get Yo
    refine sO hS (zL rfl (Yh.rd (i := 0) rfl) qG.len (Yc.inb Yo) (by rw [show qG.v (rd Yd Ym) = _ from YW]; rfl) Try.isAgg68) rfl fun hS => sA hS rfl fun hS => qz <| zh <| sM hS rfl fun hS => sM hS rfl fun hS => ?_
    obtain ⟨YR, hM⟩ := qx hM
    refine ZE (ys := YX) 1 hS rfl rfl Yx rfl (YS.rd (i := 0) rfl) Try.runUnderlying68 Try.runUnderlying68 X.el70 qG.len rfl jm (Yp.room Yy YR) rfl fun YY w Y3 Y5 Y6 hz YN hS => ?_
    obtain ⟨YZ, hzm⟩ := yd (Yb ++ (rd Ya Ym))
    replace hM := qA hzm hM
    have Yz := qD.append Yp Yy
    rw [← hz, ← hzm] at Yz; clear hz hzm
    refine sA hS rfl fun hS => qK <| ze (qh ?_)
    refine zh <| sB hS rfl fun hS => sM hS rfl fun hS => qK <| qh ?_
    exact YM _ _ ⟨Y3, Y5, YY, YZ, Y6, (ql (Ym + (1 : Int))), hS.to [0, 1] (by kernel_rfl) ⟨rfl, rfl, rfl, rfl, trivial⟩, YN, Yz, hM⟩
   ·refine wp_exit ?_
    refine qu (qu (qJ (qh ?_)))
    refine qo <| sM hS rfl fun hS => sA hS rfl fun hS => qz <| wp_ret ?_
    exact qZ (rs := [2]) hS rfl rfl (hret YA Yt Yu Yi Yb Yv _ (qQ hM) Yq Yx Yp (hS.st.pick [0, 1] (by kernel_rfl)))
end Go.TryS

set_option maxRecDepth 100000
namespace Go.TryS
open Go Go.Sl Go.Mo Go.Proofs
attribute [local irreducible] qN.wp
theorem jO {H : zB} {F : List qr} {w : World} {R : Ending → World → Prop} {kr : (List qb) → Prop} {kp : Value → Prop} (hG : Gl H) (K : Nat) (Yn : List qb) (Yo : List qb) (Ya : qr) (Ys : Option Addr) (Yu : Nat) (Yc : List (qG 2)) (Yt : Option Addr) (Yv : Nat) (Yd : List (qG 2)) (Yj : qD (qf Ya) Yn Yc) (Yh : Pl Ya (qG.v (sz := 2)) Ys Yc) (YK : Yc.length ≤ Yu) (Yk : qD (qf Ya) Yo Yd) (Yi : Pl Ya (qG.v (sz := 2)) Yt Yd) (YL : Yd.length ≤ Yv)
    (hS : St w H [Ya] F) (hm : (zN.m K Yn Yo).wp kr kp)
    (hret : ∀ (YC : qr) (YD : Option Addr) (YE : Nat) (Yy : List (qG 2)) (YJ : (List qb)) (YI : qr) (w : World), kr YJ → (∀ q ∈ Ya, q ∈ YC) → (zJ 70 (qG.v (sz := 2)) 2 YD Yy YE YI) → (qD (qf YC) YJ Yy) → St w H [YC, YI] F → R (.returned (.slice YD Yy.length YE)) w)
    (hpan : ∀ v w, kp v → St w H [] F → R (.panicked [⟨v, false, false⟩]) w) :
    Calls Try.prog 35 ⟨[.slice Ys Yc.length Yu, .slice Yt Yd.length Yv]⟩ w R := by
 refine enter Try.func35 rfl Try.ntmps35 rfl hS fun a w hS => ?_
 have hM := hm; clear hm
 rw [zN.m] at hM
 have Ym : ∀ q ∈ Ya, q ∈ Ya := fun _ h => h
 refine qo <| sA hS rfl fun hS => ?_
 obtain ⟨YF, YX, hS⟩ := hS.nilV 70 (qG.v (sz := 2)) 2
 have Yp : qD (qf Ya) ([] : List qb) ([] : List (qG 2)) := qD.nil
 refine qz <| qo <| sM hS rfl fun hS => sM hS rfl fun hS => ?_
 obtain ⟨Yx, hrw⟩ : ∃ r, r = ([(⟨[.slice Ys Yc.length Yu], by simp, by simp [Value.oneCell']⟩ : qG 1), (⟨[.slice Yt Yd.length Yv], by simp, by simp [Value.oneCell']⟩ : qG 1)] : List (qG 1)) := ⟨_, rfl⟩
 have Yl : qD (zm Ya) ([Yn, Yo] : List (List qb)) Yx := by rw [hrw]; exact (qD.cons (show zm Ya _ _ from ⟨Ys, Yu, Yc, rfl, Yj, Yh, YK⟩) (qD.cons (show zm Ya _ _ from ⟨Yt, Yv, Yd, rfl, Yk, Yi, YL⟩) qD.nil))
 refine Qc (g := (qG.v (sz := 1))) Yx [.slice Ys Yc.length Yu, .slice Yt Yd.length Yv] hS Try.runUnderlying84 Try.sizeOf68 X.el68 rfl rfl rfl (by simp [Value.cells]) (by rw [hrw]; rfl) (by rw [hrw]; rfl) rfl rfl rfl fun w YO YP YY YB hS => ?_
 clear hrw
 replace hS := hS.front [0, 2, 1] (by kernel_rfl)
 obtain ⟨YU, YN, Yb, hS⟩ := hS.poolF
 have YM := YB.cap qG.len rfl
 have Yw := YB.pl.mono YN
 replace Yh := Yh.mono Yb
 replace Yi := Yi.mono Yb
 replace Yj := qD.mono (fun _ _ h => qf.mono Yb h) Yj
 replace Yk := qD.mono (fun _ _ h => qf.mono Yb h) Yk
 replace Yp := qD.mono (fun _ _ h => qf.mono Yb h) Yp
 replace Yl := qD.mono (fun _ _ h => zm.mono Yb h) Yl
 replace Ym := fun q h => Yb q (Ym q h)
 refine qT hS rfl Try.call40 (zR hG K ([Yn, Yo] : List (List qb)) YU YO YP Yx Yl Yw YM (hS.st.part 1 [0, 1] (by kernel_rfl)) (qE hM) (fun Yz Ye Yf Yq YV YG w hM Yg YQ YR hst => qP hS.ev hst.appF rfl fun hS => ?_) (fun v w hk hst => yr (q6 (⟨hS.ev.defs, hpan _ _ hk hst.appF.frame⟩))))
 replace hS : Ss _ _ _ H [Yz, YG, YF] F _ _ := hS
 replace Yh := Yh.mono Yg
 replace Yi := Yi.mono Yg
 replace Yw := Yw.mono Yg
 replace Yj := qD.mono (fun _ _ h => qf.mono Yg h) Yj
 replace Yk := qD.mono (fun _ _ h => qf.mono Yg h) Yk
 replace Yp := qD.mono (fun _ _ h => qf.mono Yg h) Yp
 replace Yl := qD.mono (fun _ _ h => zm.mono Yg h) Yl
 replace Ym := fun q h => Yg q (Ym q h)
 refine sA hS rfl fun hS => qz <| qo <| sM hS rfl fun hS => qT hS rfl Try.call32 (za 41 (.inr rfl) hG K YV Yz Ye Yf Yq YG YR YQ (hS.st.part 2 [0, 1, 2] (by kernel_rfl)) (qE hM) (fun Yr YW YH w hM YS YT YA hst => qP hS.ev hst.appF rfl fun hS => ?_))
 replace hS : Ss _ _ _ H [Yz, YH, YF] F _ _ := hS
 replace hS := hS.re 5 (u := .slice Ye Yq.length Yf) (v := .slice Ye Yr.length Yf) rfl (by rw [YA])
 replace hS := hS.re 9 (u := .slice Ye Yq.length Yf) (v := .slice Ye Yr.length Yf) rfl (by rw [YA])
 replace hS := hS.re 10 (u := .slice Ye Yq.length Yf) (v := .slice Ye Yr.length Yf) rfl (by rw [YA])
 refine qz <| qo <| sM hS rfl fun hS => sA hS rfl fun hS => qz <| wp_ret ?_
 exact qZ (rs := [4]) hS rfl rfl (hret Yz Ye Yf Yr YW YH _ (qQ hM) Ym YS YT (hS.st.pick [0, 1] (by kernel_rfl)))
theorem yj {H : zB} {F : List qr} {w : World} {R : Ending → World → Prop} {kr : ((List Int) × Int) → Prop} {kp : Value → Prop} (hG : Gl H) (K : Nat) (Ya : List Int) (Yb : Int) (YT : Option Addr) (YU : Nat) (Ju : xx H [] F (ci .i64) YT Ya) (VL : Ya.length ≤ YU)
    (hS : St w H [] F) (hm : (qk.m K Ya Yb).wp kr kp)
    (hret : ∀ (JG : Option Addr) (JI : Nat) (JC : (List Int)) (JJ : qr) (J0 : Int) (w : World), kr (JC, J0) → (zJ 3 (ci .i64) 1 JG JC JI JJ) → St w H [JJ] F → R (.returned (.tuple ⟨[.slice JG JC.length JI, .int .i64 J0]⟩)) w)
    (hpan : ∀ v w, kp v → St w H [] F → R (.panicked [⟨v, false, false⟩]) w) :
    Calls Try.prog 20 ⟨[.slice YT Ya.length YU, .int .i64 Yb]⟩ w R := by
 refine enter Try.func20 rfl Try.ntmps20 rfl hS fun a w hS => ?_
 have hM := hm; clear hm
 rw [qk.m] at hM
 refine qo <| sA hS rfl fun hS => ?_
 obtain ⟨V8, Ut, hS⟩ := hS.nilV 3 (ci .i64) 1
 refine sA hS rfl fun hS => qz <| wp_seq <| qo <| sM hS rfl fun hS => sB hS rfl fun hS => sM hS rfl fun hS => xj 2 false 17 (b := (decide (Yb < (1 : Int)))) (r := (decide (Yb > (15 : Int)))) hS rfl rfl rfl rfl rfl rfl rfl (fun hb a w hS K hK => ?_) rfl fun a w hS => ?_
 ·refine qX hS rfl rfl rfl hb (mv rfl) rfl fun a w hS => ?_
  refine qX hS rfl rfl rfl hb (xq rfl rfl rfl) rfl fun a w hS => ?_
  exact qK (hK _ _ (hS.up 2 rfl rfl))
 refine sM hS rfl fun hS => xj 3 false 21 (b := ((decide (Yb < (1 : Int))) || (decide (Yb > (15 : Int))))) (r := (decide ((Ya.length : Int) > (320 : Int)))) hS rfl rfl rfl rfl rfl rfl rfl (fun hb a w hS K hK => ?_) rfl fun a w hS => ?_
 ·refine qX hS rfl rfl rfl hb (mv rfl) rfl fun a w hS => ?_
  refine qX hS rfl rfl rfl hb (zC rfl Try.runUnderlying22) rfl fun a w hS => qX hS rfl rfl rfl hb (xq rfl rfl rfl) rfl fun a w hS => ?_
  exact qK (hK _ _ (hS.up 3 rfl rfl))
 refine sM hS rfl fun hS => xi (fun a w => ∃ (Vp : Bool), Ss 109 [] [(0, .slice YT Ya.length YU), (1, .int .i64 Yb), (29, .bool Vp)] H [] F a w ∧ (qk.j1 K Ya Yb Vp).wp kr kp) 3 (fun Ux JN => ?_) ?_
 ·refine uW (b := (((decide (Yb < (1 : Int))) || (decide (Yb > (15 : Int)))) || (decide ((Ya.length : Int) > (320 : Int))))) hM (fun YQ hM => ?_) (fun YQ hM => ?_)
  ·replace hS := hS.re 25 (v := .bool true) rfl (congrArg Value.bool YQ)
   replace hS := hS.re 26 (v := .bool true) rfl (congrArg Value.bool YQ)
   refine yW 2 hS rfl fun a w hS => sO hS (pk rfl rfl rfl) rfl fun hS => qK <| qh ?_
   exact JN _ _ ⟨true, hS.to [] (by kernel_rfl) ⟨rfl, rfl, rfl, trivial⟩, hM⟩
  ·replace hS := hS.re 25 (v := .bool false) rfl (congrArg Value.bool YQ)
   replace hS := hS.re 26 (v := .bool false) rfl (congrArg Value.bool YQ)
   refine qX hS rfl rfl rfl rfl (mv rfl) rfl fun a w hS => xD hS rfl rfl rfl rfl <| qT hS rfl Try.call30 (zX hG K Ya YT YU (Ju.app _) VL (hS.st.part 0 [0] (by kernel_rfl)) (qE hM) (fun Uk w hM  hst => qP hS.ev hst.appF rfl fun hS => ?_))
   replace hS : Ss _ _ _ H [V8] F _ _ := hS
   refine sO hS (pk rfl rfl rfl) rfl fun hS => qK <| qh ?_
   exact JN _ _ ⟨Uk, hS.to [] (by kernel_rfl) ⟨rfl, rfl, rfl, trivial⟩, hM⟩
 ·intro a w hI
  obtain ⟨Vp, hS, hM⟩ := hI
  rw [qk.j1] at hM
  refine qz <| qv hS rfl hM (fun VF hM => ?_) (fun VF hM => ?_)
  ·refine wp_seq ?_
   refine zh <| sA hS rfl fun hS => ?_
   obtain ⟨V9, Vz, hS⟩ := hS.nilV 3 (ci .i64) 1
   refine sA hS rfl fun hS => qz <| wp_ret <| qy ?_
   exact qZ (rs := [4, 5]) hS rfl rfl (hret none (0) ([] : List Int) V9 (1 : Int) _ (qQ hM) Vz (hS.st.pick [0] (by kernel_rfl)))
  ·refine wp_skip ?_
   refine qh <| qo <| sA hS rfl fun hS => ?_
   obtain ⟨V1, hS⟩ := hS.pool0
   obtain ⟨Ua, VA, hS⟩ := hS.nilV 70 (qG.v (sz := 2)) 2
   have VR : qD (qf V1) ([] : List qb) ([] : List (qG 2)) := qD.nil
   refine qz <| qR (fun a w => ∃ (Y8 : qr) (Yp : Option Addr) (Yq : Nat) (Ys : List (qG 2)) (Yc : (List qb)) (Jg : qr), Ss 109 [] [(0, .slice YT Ya.length YU), (1, .int .i64 Yb), (6, .slice Yp Ys.length Yq)] H [Y8, Jg] F a w ∧ (zJ 70 (qG.v (sz := 2)) 2 Yp Ys Yq Jg) ∧ (qD (qf Y8) Yc Ys) ∧ (qk.j3 K Ya Yb Yc).wp kr kp) (fun Uz Vy => ?_) ?_
   ·refine wp_seq ?_
    refine zh <| sM hS rfl fun hS => sO hS (zC rfl Try.runUnderlying22) rfl fun hS => sM hS rfl fun hS => qz <| zP <| qU (fun VV a w => ∃ (Jy : qr) (Jb : Option Addr) (Je : Nat) (YL : List (qG 2)) (Yg : (List qb)) (Jf : qr) (Yx : Int), Ss 109 [] [(0, .slice YT Ya.length YU), (1, .int .i64 Yb), (6, .slice Jb YL.length Je), (30, .slice YT Ya.length YU), (31, .int .i64 (Ya.length : Int)), (32, .int .i64 Yx)] H [Jy, Jf] F a w ∧ (zJ 70 (qG.v (sz := 2)) 2 Jb YL Je Jf) ∧ (qD (qf Jy) Yg YL) ∧ (qk.l2 K Ya Yb VV Yg Yx).wp kr kp) K ?_ ?_ ?_
    ·exact ⟨V1, none, 0, ([] : List (qG 2)), ([] : List qb), Ua, (0 : Int), hS.to [1, 0] (by kernel_rfl) ⟨rfl, rfl, rfl, rfl, rfl, rfl, trivial⟩, VA, VR, hM⟩
    ·intro a w hI; obtain ⟨_, _, _, _, _, _, _, _, _, _, hM⟩ := hI; exact qS hM
    ·intro VV a w hI Uy JO
     obtain ⟨Jy, Jb, Je, YL, Yg, Jf, Yx, hS, Jk, YK, hM⟩ := hI
     rw [qk.l2] at hM
     refine qo <| sB hS rfl fun hS => qz <| wp_seq <| qv hS rfl hM (fun VG hM => ?_) (fun VG hM => ?_)
     ·refine wp_skip ?_
      refine qh <| wp_seq <| zP <| qo <| sM hS rfl fun hS => ?_
      obtain ⟨JS, hM⟩ := qx hM
      refine sO hS (zM rfl rfl Try.runUnderlying22 Try.sizeOf3 Ju.wk (fun _ => rfl) rfl JS) rfl fun hS => sO hS (zL rfl Ju.wk (fun _ => rfl) JS rfl Try.isAgg3) rfl fun hS => sA hS rfl fun hS => zb (v := Value.int .i64) (x0 := (rd Ya Yx)) hS (zG rfl) rfl fun YR a w hz hS => ?_
      have hM := qA hz hM; clear hz
      refine qz <| qo <| sM hS rfl fun hS => sB hS rfl fun hS => qz <| qv hS rfl hM (fun VH hM => ?_) (fun VH hM => ?_)
      ·refine zh ?_
       refine sM hS rfl fun hS => sM hS rfl fun hS => sM hS rfl fun hS => Qc (g := (ci .i64)) ([Yx] : List Int) [.int .i64 Yx] hS Try.runUnderlying22 Try.sizeOf3 X.el3 rfl rfl rfl (by simp [Value.cells]) rfl rfl rfl rfl rfl fun w JD JE UD JQ hS => sO hS (Xa ([.int .i64 YR, .slice JD ([Yx] : List Int).length JE]) [(0, 1), (1, 1)] Try.zeroValue70 Try.runUnderlying70 (by intro w; simp [Try.sizeOf22, Try.sizeOf3]) rfl rfl) rfl fun hS => ?_
       replace hS := hS.front [0, 1, 2] (by kernel_rfl)
       obtain ⟨Vm, VS, VT, hS⟩ := hS.poolF
       have VM := JQ.cap (fun _ => rfl) rfl
       have VQ := JQ.pl.mono VS
       replace YK := qD.mono (fun _ _ h => qf.mono VT h) YK
       obtain ⟨JA, hrw⟩ : ∃ r, r = ([(⟨[.int .i64 YR, .slice JD ([Yx] : List Int).length JE], by simp, by simp [Value.oneCell']⟩ : qG 2)] : List (qG 2)) := ⟨_, rfl⟩
       have JW : qD (qf Vm) ([(qb.mk YR ([Yx] : List Int))] : List qb) JA := by rw [hrw]; exact (qD.cons (show qf Vm _ _ from ⟨JD, JE, rfl, VQ, VM⟩) qD.nil)
       refine Qc (g := (qG.v (sz := 2))) JA [.agg ⟨[.int .i64 YR, .slice JD ([Yx] : List Int).length JE]⟩] hS Try.runUnderlying68 Try.sizeOf70 X.el70 rfl rfl rfl (by simp [Value.cells]) (by rw [hrw]; rfl) (by rw [hrw]; rfl) rfl rfl rfl fun w Uv UB UE VB hS => ?_
       clear hrw
       obtain ⟨VN, hM⟩ := qx hM
       refine ZE (ys := JA) 2 hS rfl rfl Jk rfl (VB.rd (i := 0) rfl) Try.runUnderlying68 Try.runUnderlying68 X.el70 qG.len rfl jm (YK.room JW VN) rfl fun V2 w V6 V7 Ub hz VC hS => ?_
       obtain ⟨V5, hzm⟩ := yd (Yg ++ ([(qb.mk YR ([Yx] : List Int))] : List qb))
       replace hM := qA hzm hM
       have JX := qD.append YK JW
       rw [← hz, ← hzm] at JX; clear hz hzm
       refine sA hS rfl fun hS => qK <| ze (qh ?_)
       refine zh <| sB hS rfl fun hS => sM hS rfl fun hS => qK <| qh ?_
       exact JO _ _ ⟨Vm, V6, V7, V2, V5, Ub, (ql (Yx + (1 : Int))), hS.to [1, 2] (by kernel_rfl) ⟨rfl, rfl, rfl, rfl, rfl, rfl, trivial⟩, VC, JX, hM⟩
      ·refine wp_skip ?_
       refine ze (qh ?_)
       refine zh <| sB hS rfl fun hS => sM hS rfl fun hS => qK <| qh ?_
       exact JO _ _ ⟨Jy, Jb, Je, YL, Yg, Jf, (ql (Yx + (1 : Int))), hS.to [0, 1] (by kernel_rfl) ⟨rfl, rfl, rfl, rfl, rfl, rfl, trivial⟩, Jk, YK, hM⟩
     ·refine wp_exit ?_
      refine qu (qu (qJ (qh ?_)))
      exact Vy _ _ ⟨Jy, Jb, Je, YL, Yg, Jf, hS.to [0, 1] (by kernel_rfl) ⟨rfl, rfl, rfl, trivial⟩, Jk, YK, hM⟩
   ·intro a w hI
    obtain ⟨Y8, Yp, Yq, Ys, Yc, Jg, hS, Y3, Yy, hM⟩ := hI
    rw [qk.j3] at hM
    refine wp_seq <| qo <| sM hS rfl fun hS => sO hS (qW (v' := .int .i64 (Yc.length : Int)) (zC rfl Try.runUnderlying68) (by rw [Yy.len])) rfl fun hS => sM hS rfl fun hS => ?_
    obtain ⟨VO, hM⟩ := qx hM
    refine sO hS (shl rfl rfl VO) rfl fun hS => sB hS rfl fun hS => qz <| qv hS rfl hM (fun VI hM => ?_) (fun VI hM => ?_)
    ·refine wp_seq ?_
     refine zh <| sA hS rfl fun hS => ?_
     obtain ⟨Uc, VD, hS⟩ := hS.nilV 3 (ci .i64) 1
     refine sA hS rfl fun hS => qz <| wp_ret <| qy ?_
     exact qZ (rs := [4, 5]) hS rfl rfl (hret none (0) ([] : List Int) Uc (1 : Int) _ (qQ hM) VD (hS.st.pick [0] (by kernel_rfl)))
    ·refine wp_skip ?_
     refine qh <| qo <| sM hS rfl fun hS => sO hS (zC rfl Try.runUnderlying22) rfl fun hS => ?_
     obtain ⟨VP, hM⟩ := qx hM
     refine Xf (g := (ci .i64)) (m := (Ya.length : Int)) (0 : Int) hS rfl rfl (by simp) Try.runUnderlying22 X.el3 (fun w => ⟨_, Try.zeroValue3 w, rfl⟩) (fun _ => rfl) rfl rfl VP rfl fun Y6 w Ym Yn Ud hz Jl hS => ?_
     have hM := qA hz hM; clear hz
     refine sA hS rfl fun hS => qz <| qR (fun a w => ∃ (Yl : (List Int)) (YI : qr), Ss 109 [] [(1, .int .i64 Yb), (6, .slice Yp Ys.length Yq), (9, .slice Ym Yl.length Yn)] H [Y8, Jg, YI] F a w ∧ (zJ 3 (ci .i64) 1 Ym Yl Yn YI) ∧ (qk.j4 K Yb Yc Yl).wp kr kp) (fun UA JP => ?_) ?_
     ·refine wp_seq ?_
      refine zh <| sM hS rfl fun hS => sO hS (qW (v' := .int .i64 (Yc.length : Int)) (zC rfl Try.runUnderlying68) (by rw [Yy.len])) rfl fun hS => sB hS rfl fun hS => qz <| qv hS rfl hM (fun VJ hM => ?_) (fun VJ hM => ?_)
      ·refine zh ?_
       refine sM hS rfl fun hS => sM hS rfl fun hS => ?_
       obtain ⟨Y4, hM⟩ := qx hM
       refine sO hS (zM rfl rfl Try.runUnderlying68 Try.sizeOf70 (Y3.rd (i := 2) rfl) qG.len rfl (Yy.inb Y4)) rfl fun hS => sO hS (vo rfl (Y3.rd (i := 2) rfl) qG.len rfl (Yy.inb Y4) Try.runUnderlying70 rfl Try.sizeOf22 rfl) rfl fun hS => ?_
       obtain ⟨Uw, UC, VU, JV, Uu⟩ := Yy.get Y4
       refine sO hS (QN 1 rfl (Y3.rd (i := 2) rfl) qG.len (Yy.inb Y4) (by rw [show qG.v (rd Ys (0 : Int)) = _ from VU]; rfl) Try.isAgg22) rfl fun hS => ?_
       obtain ⟨JT, hM⟩ := qx hM
       refine sO hS (zM rfl rfl Try.runUnderlying22 Try.sizeOf3 (JV.rd (i := 1) rfl) (fun _ => rfl) rfl JT) rfl fun hS => sO hS (zL rfl (JV.rd (i := 1) rfl) (fun _ => rfl) JT rfl Try.isAgg3) rfl fun hS => ?_
       obtain ⟨JU, hM⟩ := qx hM
       refine sO hS (zM rfl rfl Try.runUnderlying22 Try.sizeOf3 (Jl.rd (i := 0) rfl) (fun _ => rfl) rfl JU) rfl fun hS => Zz (i := (rd ((rd Yc (0 : Int)).symbols_) (0 : Int))) (sz := 1) 0 0 ((1 : Int)) hS rfl rfl Jl rfl Try.sizeOf3 (zA (1 : Int)) (fun _ => rfl) JU rfl rfl fun Y7 w Ue hz Jw VE hS => ?_
       have hM := qA hz hM; clear hz
       replace hS := hS.re 9 (u := .slice Ym Y6.length Yn) (v := .slice Ym Y7.length Yn) rfl (by rw [Jw])
       replace hS := hS.re 54 (u := .slice Ym Y6.length Yn) (v := .slice Ym Y7.length Yn) rfl (by rw [Jw])
       replace hS := hS.re 58 (u := .slice Ym Y6.length Yn) (v := .slice Ym Y7.length Yn) rfl (by rw [Jw])
       refine qK <| qh ?_
       exact JP _ _ ⟨Y7, Ue, hS.to [1, 2, 0] (by kernel_rfl) ⟨rfl, rfl, rfl, trivial⟩, VE, hM⟩
      ·refine wp_skip ?_
       refine qh ?_
       exact JP _ _ ⟨Y6, Ud, hS.to [1, 2, 0] (by kernel_rfl) ⟨rfl, rfl, rfl, trivial⟩, Jl, hM⟩
     ·intro a w hI
      obtain ⟨Yl, YI, hS, JR, hM⟩ := hI
      rw [qk.j4] at hM
      refine wp_seq <| qo <| sM hS rfl fun hS => sO hS (qW (v' := .int .i64 (Yc.length : Int)) (zC rfl Try.runUnderlying68) (by rw [Yy.len])) rfl fun hS => sB hS rfl fun hS => qz <| qv hS rfl hM (fun VK hM => ?_) (fun VK hM => ?_)
      ·refine wp_seq ?_
       refine zh <| sM hS rfl fun hS => sA hS rfl fun hS => sA hS rfl fun hS => qz <| wp_ret <| qy ?_
       exact qZ (rs := [4, 5]) hS rfl rfl (hret Ym Yn Yl YI (0 : Int) _ (qQ hM) JR (hS.st.pick [2] (by kernel_rfl)))
      ·refine wp_skip ?_
       refine qh <| qo <| sM hS rfl fun hS => qT hS rfl Try.call32 (za 33 (.inl rfl) hG K Yc Y8 Yp Yq Ys Jg Yy Y3 (hS.st.part 2 [0, 1, 2] (by kernel_rfl)) (qE hM) (fun Yd Yt Vu w hM JK YZ Jh hst => qP hS.ev hst.appF rfl fun hS => ?_))
       replace hS : Ss _ _ _ H [Y8, Vu, YI] F _ _ := hS
       replace hS := hS.re 6 (u := .slice Yp Ys.length Yq) (v := .slice Yp Yd.length Yq) rfl (by rw [Jh])
       replace hS := hS.re 66 (u := .slice Yp Ys.length Yq) (v := .slice Yp Yd.length Yq) rfl (by rw [Jh])
       replace hS := hS.re 70 (u := .slice Yp Ys.length Yq) (v := .slice Yp Yd.length Yq) rfl (by rw [Jh])
       refine qz <| qo <| sM hS rfl fun hS => sA hS rfl fun hS => qz <| qR (fun a w => ∃ (YA : qr) (Y9 : Option Addr) (Jc : Nat) (YH : List (qG 2)) (YB : (List qb)), Ss 109 [] [(6, .slice Yp Yd.length Yq), (9, .slice Ym Yl.length Yn), (10, .slice Y9 YH.length Jc)] H [YA, YI] F a w ∧ (qD (qf YA) Yt Yd) ∧ (Pl YA (qG.v (sz := 2)) Yp Yd) ∧ (Yd.length ≤ Yq) ∧ (qD (qf YA) YB YH) ∧ (Pl YA (qG.v (sz := 2)) Y9 YH) ∧ (YH.length ≤ Jc) ∧ (qk.j6 K Yl Yt YB).wp kr kp) (fun Um J4 => ?_) ?_
       ·refine wp_seq ?_
        refine zh <| sM hS rfl fun hS => sB hS rfl fun hS => sM hS rfl fun hS => qz <| zP <| qU (fun JY a w => ∃ (Yz : qr) (YN : Option Addr) (YO : Nat) (Yv : List (qG 2)) (Yw : (List qb)) (Y5 : Int), Ss 109 [] [(6, .slice Yp Yd.length Yq), (9, .slice Ym Yl.length Yn), (10, .slice YN Yv.length YO), (74, .int .i64 (ql (Yb - (1 : Int)))), (75, .int .i64 Y5)] H [Yz, YI] F a w ∧ (qD (qf Yz) Yt Yd) ∧ (Pl Yz (qG.v (sz := 2)) Yp Yd) ∧ (Yd.length ≤ Yq) ∧ (qD (qf Yz) Yw Yv) ∧ (Pl Yz (qG.v (sz := 2)) YN Yv) ∧ (Yv.length ≤ YO) ∧ (qk.l5 K Yb Yl Yt JY Yw Y5).wp kr kp) K ?_ ?_ ?_
        ·replace hS := hS.front [1, 0, 2] (by kernel_rfl)
         obtain ⟨VZ, Vi, Vj, hS⟩ := hS.poolF
         have Jn := JK.cap qG.len rfl
         have Jq := JK.pl.mono Vi
         replace YZ := qD.mono (fun _ _ h => qf.mono Vj h) YZ
         exact ⟨VZ, Yp, Yq, Yd, Yt, (0 : Int), hS.to [0, 1] (by kernel_rfl) ⟨rfl, rfl, rfl, rfl, rfl, trivial⟩, YZ, Jq, Jn, YZ, Jq, Jn, hM⟩
        ·intro a w hI; obtain ⟨_, _, _, _, _, _, _, _, _, _, _, _, _, hM⟩ := hI; exact qS hM
        ·intro JY a w hI Ul J3
         obtain ⟨Yz, YN, YO, Yv, Yw, Y5, hS, Yi, Yh, YV, Yk, Yj, Jm, hM⟩ := hI
         rw [qk.l5] at hM
         refine qo <| sB hS rfl fun hS => qz <| wp_seq <| qv hS rfl hM (fun J8 hM => ?_) (fun J8 hM => ?_)
         ·refine wp_skip ?_
          refine qh <| wp_seq <| zP <| zh <| sM hS rfl fun hS => sM hS rfl fun hS => qT hS rfl Try.call36 (vq hG K Yw Yz YN YO Yv Yk Yj Jm (hS.st.part 1 [0, 1] (by kernel_rfl)) (qE hM) (fun VW Vq Vs Vn V3 Vv w hM Y0 JL YC hst => qP hS.ev hst.appF rfl fun hS => ?_) (fun v w hk hst => yr (xr (q6 (q6 (xr (q6 (⟨hS.ev.defs, hpan _ _ hk hst.appF.frame⟩))))))))
          replace hS : Ss _ _ _ H [VW, Vv, YI] F _ _ := hS
          replace Yh := Yh.mono Y0
          replace Yj := Yj.mono Y0
          replace Yi := qD.mono (fun _ _ h => qf.mono Y0 h) Yi
          replace Yk := qD.mono (fun _ _ h => qf.mono Y0 h) Yk
          replace hS := hS.front [1, 0, 2] (by kernel_rfl)
          obtain ⟨VX, Vh, YG, hS⟩ := hS.poolF
          have Vb := JL.cap qG.len rfl
          have YE := JL.pl.mono Vh
          replace YC := qD.mono (fun _ _ h => qf.mono YG h) YC
          replace Yh := Yh.mono YG
          replace Yj := Yj.mono YG
          replace Yi := qD.mono (fun _ _ h => qf.mono YG h) Yi
          replace Yk := qD.mono (fun _ _ h => qf.mono YG h) Yk
          refine qT hS rfl Try.call35 (jO hG K Yt V3 VX Yp Yq Yd Vq Vs Vn Yi Yh YV YC YE Vb (hS.st.part 1 [0, 1] (by kernel_rfl)) (qE hM) (fun VY Vr Vt Vo V4 Vw w hM YJ JM Ji hst => qP hS.ev hst.appF rfl fun hS => ?_) (fun v w hk hst => yr (xr (q6 (q6 (xr (q6 (⟨hS.ev.defs, hpan _ _ hk hst.appF.frame⟩))))))))
          replace hS : Ss _ _ _ H [VY, Vw, YI] F _ _ := hS
          replace YC := qD.mono (fun _ _ h => qf.mono YJ h) YC
          replace Yh := Yh.mono YJ
          replace Yj := Yj.mono YJ
          replace YE := YE.mono YJ
          replace Yi := qD.mono (fun _ _ h => qf.mono YJ h) Yi
          replace Yk := qD.mono (fun _ _ h => qf.mono YJ h) Yk
          refine sA hS rfl fun hS => qK <| ze (qh ?_)
          refine zh <| sB hS rfl fun hS => sM hS rfl fun hS => qK <| qh ?_
          replace hS := hS.front [1, 0, 2] (by kernel_rfl)
          obtain ⟨V0, Vk, Yu, hS⟩ := hS.poolF
          have Vc := JM.cap qG.len rfl
          have Vf := JM.pl.mono Vk
          replace YC := qD.mono (fun _ _ h => qf.mono Yu h) YC
          replace Ji := qD.mono (fun _ _ h => qf.mono Yu h) Ji
          replace Yh := Yh.mono Yu
          replace Yj := Yj.mono Yu
          replace YE := YE.mono Yu
          replace Yi := qD.mono (fun _ _ h => qf.mono Yu h) Yi
          replace Yk := qD.mono (fun _ _ h => qf.mono Yu h) Yk
          exact J3 _ _ ⟨V0, Vr, Vt, Vo, V4, (ql (Y5 + (1 : Int))), hS.to [0, 1] (by kernel_rfl) ⟨rfl, rfl, rfl, rfl, rfl, trivial⟩, Yi, Yh, YV, Ji, Vf, Vc, hM⟩
         ·refine wp_exit ?_
          refine qu (qu (qJ (qh ?_)))
          exact J4 _ _ ⟨Yz, YN, YO, Yv, Yw, hS.to [0, 1] (by kernel_rfl) ⟨rfl, rfl, rfl, trivial⟩, Yi, Yh, YV, Yk, Yj, Jm, hM⟩
       ·intro a w hI
        obtain ⟨YA, Y9, Jc, YH, YB, hS, Vg, Uj, Ug, Jt, Jr, Vd, hM⟩ := hI
        rw [qk.j6] at hM
        refine wp_seq <| qo <| sM hS rfl fun hS => sM hS rfl fun hS => sO hS (qW (v' := .int .i64 (Yt.length : Int)) (zC rfl Try.runUnderlying68) (by rw [Vg.len])) rfl fun hS => sB hS rfl fun hS => sB hS rfl fun hS => ?_
        obtain ⟨Ve, hM⟩ := qx hM
        refine Xy (g := (qG.v (sz := 2))) hS rfl Try.runUnderlying68 Try.sizeOf70 Xr (ZS rfl) qG.len Vd (Jt.subok Ve) rfl fun Jz JF JH a w hz Jo Uh hS => ?_
        obtain ⟨Ye, hzm⟩ := yd (sub YB (0 : Int) (ql ((ql ((2 : Int) * (Yt.length : Int))) - (2 : Int))))
        replace hM := qA hzm hM
        have YF := Jt.sub (0 : Int) (ql ((ql ((2 : Int) * (Yt.length : Int))) - (2 : Int))) (ql ((ql ((2 : Int) * (Yt.length : Int))) - (2 : Int))) rfl
        rw [← hz, ← hzm] at YF; clear hz hzm
        refine sO hS (qW (v' := .int .i64 (Ye.length : Int)) (zC rfl Try.runUnderlying68) (by rw [YF.len])) rfl fun hS => sM hS rfl fun hS => qz <| zP <| qU (fun Jx a w => ∃ (Yr : (List Int)) (YP : qr) (Yo : Int), Ss 109 [] [(9, .slice Ym Yr.length Yn), (87, .slice JF Jz.length JH), (88, .int .i64 (Ye.length : Int)), (89, .int .i64 Yo)] H [YP, YA] F a w ∧ (zJ 3 (ci .i64) 1 Ym Yr Yn YP) ∧ (qk.l7 K Ye Jx Yr Yo).wp kr kp) K ?_ ?_ ?_
        ·exact ⟨Yl, YI, (0 : Int), hS.to [1, 0] (by kernel_rfl) ⟨rfl, rfl, rfl, rfl, trivial⟩, JR, hM⟩
        ·intro a w hI; obtain ⟨_, _, _, _, _, hM⟩ := hI; exact qS hM
        ·intro Jx a w hI Uo J6
         obtain ⟨Yr, YP, Yo, hS, Jj, hM⟩ := hI
         rw [qk.l7] at hM
         refine qo <| sB hS rfl fun hS => qz <| wp_seq <| qv hS rfl hM (fun J9 hM => ?_) (fun J9 hM => ?_)
         ·refine wp_skip ?_
          refine qh <| wp_seq <| zP <| wp_seq <| zh ?_
          obtain ⟨YW, hM⟩ := qx hM
          refine sO hS (zM rfl rfl Try.runUnderlying68 Try.sizeOf70 (Jo _ _ _ (Jr.rd (i := 1) rfl)) qG.len rfl (YF.inb YW)) rfl fun hS => ?_
          obtain ⟨Ja, Jd, Vl, Js, Ui⟩ := YF.get YW
          refine sO hS (qW (yl rfl (Jo _ _ _ (Jr.rd (i := 1) rfl)) qG.len (YF.inb YW) Try.isAgg70 Try.sizeOf70 rfl) (congrArg (fun l => Value.agg ⟨l⟩) Vl)) rfl fun hS => Zk ([.int .i64 (0 : Int), .slice none 0 0]) hS Try.zeroValue70 rfl rfl fun w Up Uq J1 hS => ?_
          obtain ⟨Ur, Uf, hS⟩ := hS.nilV 3 (ci .i64) 1
          refine Zy 1 ([.int .i64 ((rd Ye Yo).often_), .slice Ja ((rd Ye Yo).symbols_).length Jd]) ([.int .i64 ((rd Ye Yo).often_), .slice Ja ((rd Ye Yo).symbols_).length Jd]) hS rfl rfl J1 rfl rfl Try.sizeOf70 (by simp [Value.oneCell']) (Nat.le_of_ble_eq_true rfl) rfl fun w Us J2 hS => qz <| qo <| sO hS (yZ rfl Try.runUnderlying70 rfl Try.sizeOf22 rfl) rfl fun hS => sO hS (uh 1 rfl J2 rfl rfl Try.isAgg22) rfl fun hS => sO hS (zC rfl Try.runUnderlying22) rfl fun hS => sM hS rfl fun hS => qz <| zP <| qU (fun JZ a w => ∃ (Yf : (List Int)) (YY : qr) (YS : Int), Ss 109 [] [(9, .slice Ym Yf.length Yn), (87, .slice JF Jz.length JH), (88, .int .i64 (Ye.length : Int)), (89, .int .i64 Yo), (94, .slice Ja ((rd Ye Yo).symbols_).length Jd), (95, .int .i64 (((rd Ye Yo).symbols_).length : Int)), (96, .int .i64 YS)] H [YY, YA] F a w ∧ (zJ 3 (ci .i64) 1 Ym Yf Yn YY) ∧ (qk.l8 K (qk.l7 K Ye Jx) Ye Yo JZ Yf YS).wp kr kp) K ?_ ?_ ?_
          ·exact ⟨Yr, YP, (0 : Int), hS.to [2, 3] (by kernel_rfl) ⟨rfl, rfl, rfl, rfl, rfl, rfl, rfl, trivial⟩, Jj, hM⟩
          ·intro a w hI; obtain ⟨_, _, _, _, _, hM⟩ := hI; exact qS hM
          ·intro JZ a w hI Un J5
           obtain ⟨Yf, YY, YS, hS, YD, hM⟩ := hI
           rw [qk.l8] at hM
           refine qo <| sB hS rfl fun hS => qz <| wp_seq <| qv hS rfl hM (fun Va hM => ?_) (fun Va hM => ?_)
           ·refine wp_skip ?_
            refine qh <| wp_seq <| zP <| wp_seq <| zh ?_
            obtain ⟨Jp, hM⟩ := qx hM
            refine sO hS (zM rfl rfl Try.runUnderlying22 Try.sizeOf3 (Js.rd (i := 1) rfl) (fun _ => rfl) rfl Jp) rfl fun hS => sO hS (zL rfl (Js.rd (i := 1) rfl) (fun _ => rfl) Jp rfl Try.isAgg3) rfl fun hS => zb (v := Value.int .i64) (x0 := (rd ((rd Ye Yo).symbols_) YS)) hS (zG rfl) rfl fun JB a w hz hS => ?_
            have hM := qA hz hM; clear hz
            refine qz <| zh <| sM hS rfl fun hS => sM hS rfl fun hS => ?_
            obtain ⟨YM, hM⟩ := qx hM
            refine sO hS (zM rfl rfl Try.runUnderlying22 Try.sizeOf3 (YD.rd (i := 0) rfl) (fun _ => rfl) rfl YM) rfl fun hS => sO hS (zL rfl (YD.rd (i := 0) rfl) (fun _ => rfl) YM rfl Try.isAgg3) rfl fun hS => sB hS rfl fun hS => sO hS (zM rfl rfl Try.runUnderlying22 Try.sizeOf3 (YD.rd (i := 0) rfl) (fun _ => rfl) rfl YM) rfl fun hS => Zz (i := JB) (sz := 1) 0 0 ((ql ((rd Yf JB) + (1 : Int)))) hS rfl rfl YD rfl Try.sizeOf3 (zA (ql ((rd Yf JB) + (1 : Int)))) (fun _ => rfl) YM rfl rfl fun YX w Vx hz Jv J7 hS => ?_
            have hM := qA hz hM; clear hz
            replace hS := hS.re 9 (u := .slice Ym Yf.length Yn) (v := .slice Ym YX.length Yn) rfl (by rw [Jv])
            replace hS := hS.re 100 (u := .slice Ym Yf.length Yn) (v := .slice Ym YX.length Yn) rfl (by rw [Jv])
            refine qK <| ze (qh ?_)
            refine zh <| sB hS rfl fun hS => sM hS rfl fun hS => qK <| qh ?_
            exact J5 _ _ ⟨YX, Vx, (ql (YS + (1 : Int))), hS.to [0, 1] (by kernel_rfl) ⟨rfl, rfl, rfl, rfl, rfl, rfl, rfl, trivial⟩, J7, hM⟩
           ·refine wp_exit ?_
            refine qu (qu (qJ (ze (qh ?_))))
            refine zh <| sB hS rfl fun hS => sM hS rfl fun hS => qK <| qh ?_
            exact J6 _ _ ⟨Yf, YY, (ql (Yo + (1 : Int))), hS.to [0, 1] (by kernel_rfl) ⟨rfl, rfl, rfl, rfl, trivial⟩, YD, hM⟩
         ·refine wp_exit ?_
          refine qu (qu (qJ (qh ?_)))
          refine qo <| sM hS rfl fun hS => sA hS rfl fun hS => sA hS rfl fun hS => qz <| wp_ret ?_
          exact qZ (rs := [4, 5]) hS rfl rfl (hret Ym Yn Yr YP (0 : Int) _ (qQ hM) Jj (hS.st.pick [0] (by kernel_rfl)))
theorem vY {H : zB} {F : List qr} {w : World} {R : Ending → World → Prop} {kr : Unit → Prop} {kp : Value → Prop} (hG : Gl H) (K : Nat) (Ya : List UInt8)
    (hS : St w H [] F) (hm : (js.m K Ya).wp kr kp)
    (hret : ∀ (Yb : Nat) (Yc : qr) (w : World), kr () → (xw Yc Yb ([.int .i64 (0 : Int), yF Ya]) 63) → St w H [Yc] F → R (.returned (xg Yb 0)) w) :
    Calls Try.prog 16 ⟨[yF Ya]⟩ w R := by
 refine enter Try.func16 rfl Try.ntmps16 rfl hS fun a w hS => ?_
 have hM := hm; clear hm
 rw [js.m] at hM
 refine qo <| sA hS rfl fun hS => qz <| qo <| sM hS rfl fun hS => sO hS (Xa ([.int .i64 (0 : Int), yF Ya]) [(0, 1), (1, 1)] Try.zeroValue63 Try.runUnderlying63 (by intro w; simp [Try.sizeOf48, Try.sizeOf9]) rfl rfl) rfl fun hS => bx ([.int .i64 (0 : Int), yF Ya]) hS rfl rfl rfl fun w Ye Yf Yd hS => sA hS rfl fun hS => qz <| wp_ret ?_
 exact qZ (rs := [2]) hS rfl rfl (hret Ye Yf _ (qQ hM) Yd (hS.st.pick [0] (by kernel_rfl)))
theorem yB {H : zB} {F : List qr} {w : World} {R : Ending → World → Prop} {kr : (Int × Int × Int) → Prop} {kp : Value → Prop} (hG : Gl H) (K : Nat) (Ya : qM) (Yb : Int) (Yd : Nat) (Yf : qr) (Yc : xw Yf Yd ([.int .i64 Ya.place_.at_, yF Ya.text_]) 63)
    (hS : St w H [Yf] F) (hm : (q8.m K Ya Yb).wp kr kp)
    (hret : ∀ (Yo : Int) (Yp : Int) (Yi : Int) (Yl : qr) (w : World), kr (Yo, Yp, Yi) → (xw Yl Yd ([.int .i64 Yi, yF Ya.text_]) 63) → St w H [Yl] F → R (.returned (.tuple ⟨[.int .u32 Yo, .int .i64 Yp]⟩)) w) :
    Calls Try.prog 28 ⟨[xg Yd 0, .int .i64 Yb]⟩ w R := by
 refine enter Try.func28 rfl Try.ntmps28 rfl hS fun a w hS => ?_
 have hM := hm; clear hm
 rw [q8.m] at hM
 refine qo <| sA hS rfl fun hS => sA hS rfl fun hS => qz <| wp_seq <| zP <| qo <| sM hS rfl fun hS => sO hS (jV rfl rfl Try.runUnderlying33) rfl fun hS => sM hS rfl fun hS => qX hS rfl rfl rfl rfl (mv rfl) rfl fun a w hS => qX hS rfl rfl rfl rfl (xq rfl rfl rfl) rfl fun a w hS => sO hS (pk rfl rfl rfl) rfl fun hS => sM hS rfl fun hS => xj 2 false 16 (b := (decide (Yb < (0 : Int)))) (r := (decide (Yb > (32 : Int)))) hS rfl rfl rfl rfl rfl rfl rfl (fun hb a w hS K hK => ?_) rfl fun a w hS => ?_
 ·refine qX hS rfl rfl rfl hb (mv rfl) rfl fun a w hS => ?_
  refine qX hS rfl rfl rfl hb (xq rfl rfl rfl) rfl fun a w hS => ?_
  exact qK (hK _ _ (hS.up 2 rfl rfl))
 refine zb (v := Value.bool) (x0 := ((decide (Yb < (0 : Int))) || (decide (Yb > (32 : Int))))) hS (zG rfl) rfl fun YH a w hz hS => ?_
 have hM := qA hz hM; clear hz
 refine qz <| qv hS rfl hM (fun Yt hM => ?_) (fun Yt hM => ?_)
 ·refine wp_seq ?_
  refine zh <| sA hS rfl fun hS => sA hS rfl fun hS => qz <| wp_ret <| zy (qy ?_)
  exact qZ (rs := [4, 5]) hS rfl rfl (hret (0 : Int) (1 : Int) Ya.place_.at_ Yf _ (qQ hM) Yc (hS.st.pick [0] (by kernel_rfl)))
 ·refine wp_seq ?_
  obtain ⟨Yn, Yk⟩ : ∃ x, x = (decide (Yb > (ql ((ql ((8 : Int) * (Ya.text_.length : Int))) - Ya.place_.at_)))) := ⟨_, rfl⟩
  replace hM := qA Yk hM
  refine zc (vals := [some (.int .i64 Yb), some (xg Yd 0), some (xg Yd 0), some (xg Yd 1), some (yF Ya.text_), some (.int .i64 (Ya.text_.length : Int)), some (.int .i64 (ql ((8 : Int) * (Ya.text_.length : Int)))), some (xg Yd 0), some (xg Yd 0), some (xg Yd 0), some (xg Yd 0), some (.int .i64 Ya.place_.at_), some (.int .i64 (ql ((ql ((8 : Int) * (Ya.text_.length : Int))) - Ya.place_.at_))), some (.bool (decide (Yb > (ql ((ql ((8 : Int) * (Ya.text_.length : Int))) - Ya.place_.at_))))), some (.bool Yn)]) hS xc rfl ?_
  intro l w ho hcl hA hst
  refine x8 hA hst ho hcl xe [0, 1, 2, 3, 4, 5, 6, 7, 8, 9, 10, 11, 12, 13, 14] rfl rfl rfl (by exact ⟨nM rfl, nM rfl, nQ rfl (by exact qW (vB rfl) rfl), nQ rfl (by exact qW (yZ rfl Try.runUnderlying63 rfl Try.sizeOf9 rfl) rfl), nQ rfl (by exact qW (uh 0 rfl Yc rfl rfl Try.isAgg9) rfl), nQ rfl (by exact qW (Xq rfl Try.runUnderlying9) rfl), nB rfl, nM rfl, nQ rfl (by exact qW (vB rfl) rfl), nQ rfl (by exact qW (yZ rfl Try.runUnderlying63 rfl Try.sizeOf48 rfl) rfl), nQ rfl (by exact qW (yZ rfl Try.runUnderlying48 rfl Try.sizeOf3 rfl) rfl), nQ rfl (by exact qW (uh 0 rfl Yc rfl rfl Try.isAgg3) rfl), nB rfl, nB rfl, nQ rfl (by exact qW (zG rfl) (congrArg (Value.bool) Yk.symm)), trivial⟩) fun a w hS => ?_
  replace hS := hS.env2 (e' := [(0, xg Yd 0), (1, .int .i64 Yb), (20, .bool Yn)]) ⟨rfl, rfl, rfl, trivial⟩
  refine qh <| qv hS rfl hM (fun Yu hM => ?_) (fun Yu hM => ?_)
  ·refine wp_seq ?_
   refine zh <| sA hS rfl fun hS => sA hS rfl fun hS => qz <| wp_ret <| zy (qy ?_)
   exact qZ (rs := [4, 5]) hS rfl rfl (hret (0 : Int) (2 : Int) Ya.place_.at_ Yf _ (qQ hM) Yc (hS.st.pick [0] (by kernel_rfl)))
  ·refine wp_skip ?_
   refine ze (qh ?_)
   refine qo <| sA hS rfl fun hS => qz <| qo <| sM hS rfl fun hS => sO hS (vB rfl) rfl fun hS => sO hS (yZ rfl Try.runUnderlying63 rfl Try.sizeOf48 rfl) rfl fun hS => sO hS (yZ rfl Try.runUnderlying48 rfl Try.sizeOf3 rfl) rfl fun hS => sO hS (uh 0 rfl Yc rfl rfl Try.isAgg3) rfl fun hS => sO hS (quo rfl rfl rfl) rfl fun hS => zb (v := Value.int .i64) (x0 := (QX .i64 Ya.place_.at_ (8 : Int))) hS (zG rfl) rfl fun Ye a w hz hS => ?_
   have hM := qA hz hM; clear hz
   refine qz <| qR (fun a w => ∃ (Yj : Int), Ss 93 [] [(0, xg Yd 0), (1, .int .i64 Yb), (6, .int .u64 Yj)] H [Yf] F a w ∧ (q8.j2 K Ya Yb Yj).wp kr kp) (fun YG Ys => ?_) ?_
   ·refine wp_seq ?_
    refine zh <| sA hS rfl fun hS => qz <| zP <| qU (fun Ym a w => ∃ (Yh : Int) (Yg : Int), Ss 93 [] [(0, xg Yd 0), (1, .int .i64 Yb), (6, .int .u64 Yh), (7, .int .i64 Ye), (8, .int .i64 Yg)] H [Yf] F a w ∧ (q8.l1 K Ya Yb Ye Ym Yh Yg).wp kr kp) K ?_ ?_ ?_
    ·exact ⟨(0 : Int), (0 : Int), hS.to [0] (by kernel_rfl) ⟨rfl, rfl, rfl, rfl, rfl, trivial⟩, hM⟩
    ·intro a w hI; obtain ⟨_, _, _, hM⟩ := hI; exact qS hM
    ·intro Ym a w hI YF Yr
     obtain ⟨Yh, Yg, hS, hM⟩ := hI
     rw [q8.l1] at hM
     refine wp_seq <| qo <| sM hS rfl fun hS => sM hS rfl fun hS => sB hS rfl fun hS => sB hS rfl fun hS => sM hS rfl fun hS => sO hS (vB rfl) rfl fun hS => sO hS (yZ rfl Try.runUnderlying63 rfl Try.sizeOf48 rfl) rfl fun hS => sO hS (yZ rfl Try.runUnderlying48 rfl Try.sizeOf3 rfl) rfl fun hS => sO hS (uh 0 rfl Yc rfl rfl Try.isAgg3) rfl fun hS => sM hS rfl fun hS => sB hS rfl fun hS => sB hS rfl fun hS => qz <| qv hS rfl hM (fun Yv hM => ?_) (fun Yv hM => ?_)
     ·refine wp_skip ?_
      refine qh <| wp_seq <| zP <| zh <| sM hS rfl fun hS => sM hS rfl fun hS => sO hS (vB rfl) rfl fun hS => sO hS (yZ rfl Try.runUnderlying63 rfl Try.sizeOf9 rfl) rfl fun hS => sO hS (uh 0 rfl Yc rfl rfl Try.isAgg9) rfl fun hS => sM hS rfl fun hS => sM hS rfl fun hS => sB hS rfl fun hS => ?_
      obtain ⟨Yw, hM⟩ := qx hM
      refine sO hS (XR rfl rfl Try.runUnderlying9 Yw) rfl fun hS => sO hS (v7 rfl Try.runUnderlying5 Try.runUnderlying77) rfl fun hS => sM hS rfl fun hS => sB hS rfl fun hS => ?_
      obtain ⟨Yx, hM⟩ := qx hM
      refine sO hS (shl rfl rfl Yx) rfl fun hS => sB hS rfl fun hS => zb (v := Value.int .u64) (x0 := (ZG .u64 Yh (xn .u64 (wr .u64 ((rd Ya.text_ (ql (Ye + Yg))).toNat : Int)) (ql ((8 : Int) * Yg))))) hS (zG rfl) rfl fun YC a w hz hS => ?_
      have hM := qA hz hM; clear hz
      refine qK <| ze (qh ?_)
      refine zh <| sM hS rfl fun hS => sB hS rfl fun hS => zb (v := Value.int .i64) (x0 := (ql (Yg + (1 : Int)))) hS (zG rfl) rfl fun YB a w hz hS => ?_
      have hM := qA hz hM; clear hz
      refine qK <| qh ?_
      exact Yr _ _ ⟨YC, YB, hS.to [0] (by kernel_rfl) ⟨rfl, rfl, rfl, rfl, rfl, trivial⟩, hM⟩
     ·refine wp_exit ?_
      refine qu (qu (qJ (qh ?_)))
      exact Ys _ _ ⟨Yh, hS.to [0] (by kernel_rfl) ⟨rfl, rfl, rfl, trivial⟩, hM⟩
   ·intro a w hI
    obtain ⟨Yj, hS, hM⟩ := hI
    rw [q8.j2] at hM
    refine qo <| sM hS rfl fun hS => sM hS rfl fun hS => sO hS (vB rfl) rfl fun hS => sO hS (yZ rfl Try.runUnderlying63 rfl Try.sizeOf48 rfl) rfl fun hS => sO hS (yZ rfl Try.runUnderlying48 rfl Try.sizeOf3 rfl) rfl fun hS => sO hS (uh 0 rfl Yc rfl rfl Try.isAgg3) rfl fun hS => sB hS rfl fun hS => ?_
    obtain ⟨Yy, hM⟩ := qx hM
    refine sO hS (shr rfl rfl Yy) rfl fun hS => zb (v := Value.int .u64) (x0 := (yk .u64 Yj (ub .i64 Ya.place_.at_ (7 : Int)))) hS (zG rfl) rfl fun YD a w hz hS => ?_
    have hM := qA hz hM; clear hz
    refine qz <| qo <| sM hS rfl fun hS => sO hS (vB rfl) rfl fun hS => sO hS (yZ rfl Try.runUnderlying63 rfl Try.sizeOf48 rfl) rfl fun hS => sO hS (yZ rfl Try.runUnderlying48 rfl Try.sizeOf3 rfl) rfl fun hS => sO hS (uh 0 rfl Yc rfl rfl Try.isAgg3) rfl fun hS => sM hS rfl fun hS => sB hS rfl fun hS => sO hS (vB rfl) rfl fun hS => sO hS (yZ rfl Try.runUnderlying63 rfl Try.sizeOf48 rfl) rfl fun hS => sO hS (yZ rfl Try.runUnderlying48 rfl Try.sizeOf3 rfl) rfl fun hS => XZ 0 ([.int .i64 (ql (Ya.place_.at_ + Yb)), yF Ya.text_]) hS rfl rfl Yc rfl rfl rfl rfl Try.sizeOf3 fun w YA Yq hS => qz <| qo <| sM hS rfl fun hS => sM hS rfl fun hS => ?_
    obtain ⟨Yz, hM⟩ := qx hM
    refine sO hS (shl rfl rfl Yz) rfl fun hS => sB hS rfl fun hS => sB hS rfl fun hS => sO hS (v7 rfl Try.runUnderlying77 Try.runUnderlying53) rfl fun hS => zb (v := Value.int .u32) (x0 := (wr .u32 (ub .u64 YD (wr .u64 ((xn .u64 (1 : Int) Yb) - (1 : Int)))))) hS (zG rfl) rfl fun YE a w hz hS => ?_
    have hM := qA hz hM; clear hz
    refine sA hS rfl fun hS => qz <| wp_ret ?_
    exact qZ (rs := [4, 5]) hS rfl rfl (hret YE (0 : Int) (ql (Ya.place_.at_ + Yb)) YA _ (qQ hM) Yq (hS.st.pick [0] (by kernel_rfl)))
theorem xO {H : zB} {F : List qr} {w : World} {R : Ending → World → Prop} {kr : (Int × Int × Int) → Prop} {kp : Value → Prop} (hG : Gl H) (K : Nat) (Yd : zg) (Ya : qM) (Yv : Nat) (Yi : qr) (Yu : Option Addr) (Yw : Nat) (Yj : qr) (Yg : Nat) (Yx : qr) (Yo : xw Yi Yv ((Yd.counts_.flatMap (ci .i64)) ++ [.slice Yu Yd.symbols_.length Yw]) 61) (Yp : Yd.counts_.length = 16) (YF : zJ 3 (ci .i64) 1 Yu Yd.symbols_ Yw Yj) (YC : xw Yx Yg ([.int .i64 Ya.place_.at_, yF Ya.text_]) 63)
    (hS : St w H [Yi, Yj, Yx] F) (hm : (q9.m K Yd Ya).wp kr kp)
    (hret : ∀ (YM : Int) (YN : Int) (Ys : Int) (YK : qr) (w : World), kr (YM, YN, Ys) → (xw YK Yg ([.int .i64 Ys, yF Ya.text_]) 63) → St w H [YK, Yi, Yj] F → R (.returned (.tuple ⟨[.int .i64 YM, .int .i64 YN]⟩)) w) :
    Calls Try.prog 17 ⟨[xg Yv 0, xg Yg 0]⟩ w R := by
 refine enter Try.func17 rfl Try.ntmps17 rfl hS fun a w hS => ?_
 have hM := hm; clear hm
 rw [q9.m] at hM
 refine qo <| sA hS rfl fun hS => sA hS rfl fun hS => qz <| wp_seq <| qo <| sM hS rfl fun hS => sO hS (jV rfl rfl Try.runUnderlying30) rfl fun hS => sM hS rfl fun hS => qX hS rfl rfl rfl rfl (mv rfl) rfl fun a w hS => qX hS rfl rfl rfl rfl (jV rfl rfl Try.runUnderlying33) rfl fun a w hS => sO hS (pk rfl rfl rfl) rfl fun hS => qz <| uO hS rfl <| wp_skip <| qh <| qo <| sM hS rfl fun hS => sO hS (vB rfl) rfl fun hS => sO hS (Q2 2 rfl YC rfl ([.int .i64 Ya.place_.at_, yF Ya.text_]) rfl rfl Try.isAgg63 Try.sizeOf63) rfl fun hS => Zk ([.int .i64 (0 : Int), yF ([] : List UInt8)]) hS Try.zeroValue63 rfl rfl fun w YJ Y7 YO hS => Zy 0 ([.int .i64 Ya.place_.at_, yF Ya.text_]) ([.int .i64 Ya.place_.at_, yF Ya.text_]) hS rfl rfl YO rfl rfl Try.sizeOf63 (by simp [Value.oneCell']) (Nat.le_of_ble_eq_true rfl) rfl fun w Yy YD hS => qz <| qo <| sA hS rfl fun hS => sA hS rfl fun hS => sA hS rfl fun hS => qz <| qR (fun a w => ∃ (Yl : Int) (YA : qr), Ss 81 [] [(1, xg Yg 0), (6, xg YJ 0)] H [YA, Yi, Yj, Yy] F a w ∧ (xw YA Yg ([.int .i64 Yl, yF Ya.text_]) 63) ∧ (q9.j2 K Ya Yl).wp kr kp) (fun Y6 YT => ?_) ?_
 ·refine wp_seq ?_
  refine zh <| sA hS rfl fun hS => qz <| zP <| qU (fun YL a w => ∃ (Ye : Int) (Yn : qr) (Yf : Int) (Yc : Int) (Yb : Int) (Yh : Int), Ss 81 [] [(0, xg Yv 0), (1, xg Yg 0), (6, xg YJ 0), (7, .int .i64 Yf), (8, .int .i64 Yc), (9, .int .i64 Yb), (10, .int .i64 Yh)] H [Yn, Yi, Yj, Yy] F a w ∧ (xw Yn Yg ([.int .i64 Ye, yF Ya.text_]) 63) ∧ (q9.l1 K Yd Ya YL Ye Yf Yc Yb Yh).wp kr kp) K ?_ ?_ ?_
  ·exact ⟨Ya.place_.at_, Yx, (0 : Int), (0 : Int), (0 : Int), (1 : Int), hS.to [3, 1, 2, 0] (by kernel_rfl) ⟨rfl, rfl, rfl, rfl, rfl, rfl, rfl, trivial⟩, YC, hM⟩
  ·intro a w hI; obtain ⟨_, _, _, _, _, _, _, _, hM⟩ := hI; exact qS hM
  ·intro YL a w hI Y5 YS
   obtain ⟨Ye, Yn, Yf, Yc, Yb, Yh, hS, YE, hM⟩ := hI
   rw [q9.l1] at hM
   refine wp_seq <| qo <| sM hS rfl fun hS => sM hS rfl fun hS => sO hS (vB rfl) rfl fun hS => sO hS (yZ rfl Try.runUnderlying61 rfl Try.sizeOf22 rfl) rfl fun hS => sO hS (Xp 1 rfl Yo rfl (by rfl) (zd (g := (ci .i64)) (sz := 1) (fun _ => rfl) Yp) Try.isAgg22) rfl fun hS => sO hS (zC rfl Try.runUnderlying22) rfl fun hS => sB hS rfl fun hS => qz <| qv hS rfl hM (fun YU hM => ?_) (fun YU hM => ?_)
   ·refine wp_skip ?_
    refine qh <| wp_seq <| zP <| qo <| sM hS rfl fun hS => qT hS rfl Try.call28 (yB hG K (qM.mk (zp.mk Ye) Ya.text_) (1 : Int) Yg Yn YE (hS.st.part 1 [0, 1, 2, 3] (by kernel_rfl)) (qE hM) (fun Y3 Y4 Yr Yz w hM YB hst => qP hS.ev hst.appF rfl fun hS => ?_))
    replace hS : Ss _ _ _ H [Yz, Yi, Yj, Yy] F _ _ := hS
    refine sM hS rfl fun hS => sO hS (ex rfl rfl) rfl fun hS => sO hS (ex rfl rfl) rfl fun hS => sA hS rfl fun hS => sA hS rfl fun hS => qz <| wp_seq <| qo <| sM hS rfl fun hS => sB hS rfl fun hS => qz <| qv hS rfl hM (fun YV hM => ?_) (fun YV hM => ?_)
    ·refine wp_seq ?_
     refine zh <| sM hS rfl fun hS => sO hS (Q2 3 rfl YD rfl ([.int .i64 Ya.place_.at_, yF Ya.text_]) rfl rfl Try.isAgg63 Try.sizeOf63) rfl fun hS => sO hS (vB rfl) rfl fun hS => Zy 0 ([.int .i64 Ya.place_.at_, yF Ya.text_]) ([.int .i64 Ya.place_.at_, yF Ya.text_]) hS rfl rfl YB rfl rfl Try.sizeOf63 (by simp [Value.oneCell']) (Nat.le_of_ble_eq_true rfl) rfl fun w YY YP hS => qz <| qo <| sM hS rfl fun hS => sA hS rfl fun hS => sA hS rfl fun hS => qz <| wp_ret <| qy (zy (qy (qy (zy (qy ?_)))))
     exact qZ (rs := [4, 5]) hS rfl rfl (hret (0 : Int) Y4 Ya.place_.at_ YY _ (qQ hM) YP (hS.st.pick [0, 1, 2] (by kernel_rfl)))
    ·refine wp_skip ?_
     refine qh <| qo <| sM hS rfl fun hS => sO hS (shl rfl rfl rfl) rfl fun hS => sM hS rfl fun hS => sO hS (v7 rfl Try.runUnderlying53 Try.runUnderlying3) rfl fun hS => sB hS rfl fun hS => zb (v := Value.int .i64) (x0 := (ZG .i64 (xn .i64 Yf (1 : Int)) (wr .i64 Y3))) hS (zG rfl) rfl fun Ym a w hz hS => ?_
     have hM := qA hz hM; clear hz
     refine qz <| qo <| sM hS rfl fun hS => sO hS (shl rfl rfl rfl) rfl fun hS => zb (v := Value.int .i64) (x0 := (xn .i64 Yc (1 : Int))) hS (zG rfl) rfl fun Yk a w hz hS => ?_
     have hM := qA hz hM; clear hz
     refine qz <| qo <| sM hS rfl fun hS => sM hS rfl fun hS => sO hS (vB rfl) rfl fun hS => sO hS (yZ rfl Try.runUnderlying61 rfl Try.sizeOf56 rfl) rfl fun hS => ?_
     obtain ⟨YG, hM⟩ := qx hM
     refine sO hS (QY rfl rfl Try.runUnderlying56 Try.sizeOf3 YG) rfl fun hS => sO hS (ZU (xs := Yd.counts_) (g := (ci .i64)) (pre := []) (post := [.slice Yu Yd.symbols_.length Yw]) 1 rfl Yo rfl (by simp) rfl (fun _ => rfl) (xB Yp YG) rfl Try.isAgg3) rfl fun hS => zb (v := Value.int .i64) (x0 := (rd Yd.counts_ Yh)) hS (zG rfl) rfl fun YI a w hz hS => ?_
     have hM := qA hz hM; clear hz
     refine qz <| wp_seq <| qo <| sM hS rfl fun hS => sM hS rfl fun hS => sB hS rfl fun hS => sM hS rfl fun hS => sB hS rfl fun hS => qz <| qv hS rfl hM (fun YW hM => ?_) (fun YW hM => ?_)
     ·refine wp_seq ?_
      refine zh <| sM hS rfl fun hS => sO hS (vB rfl) rfl fun hS => sO hS (yZ rfl Try.runUnderlying61 rfl Try.sizeOf22 rfl) rfl fun hS => sO hS (Xp 1 rfl Yo rfl (by rfl) (zd (g := (ci .i64)) (sz := 1) (fun _ => rfl) Yp) Try.isAgg22) rfl fun hS => sM hS rfl fun hS => sM hS rfl fun hS => sB hS rfl fun hS => sM hS rfl fun hS => sB hS rfl fun hS => ?_
      obtain ⟨YH, hM⟩ := qx hM
      refine sO hS (zM rfl rfl Try.runUnderlying22 Try.sizeOf3 (YF.rd (i := 2) rfl) (fun _ => rfl) rfl YH) rfl fun hS => sO hS (zL rfl (YF.rd (i := 2) rfl) (fun _ => rfl) YH rfl Try.isAgg3) rfl fun hS => zb (v := Value.int .i64) (x0 := (rd Yd.symbols_ (ql ((ql (Yb + Ym)) - Yk)))) hS (zG rfl) rfl fun Y0 a w hz hS => ?_
      have hM := qA hz hM; clear hz
      refine sA hS rfl fun hS => qz <| wp_ret <| qy (zy (qy (qy (zy (qy ?_)))))
      exact qZ (rs := [4, 5]) hS rfl rfl (hret Y0 (0 : Int) Yr Yz _ (qQ hM) YB (hS.st.pick [0, 1, 2] (by kernel_rfl)))
     ·refine wp_skip ?_
      refine qh <| qo <| sM hS rfl fun hS => sM hS rfl fun hS => sB hS rfl fun hS => zb (v := Value.int .i64) (x0 := (ql (Yk + YI))) hS (zG rfl) rfl fun Yt a w hz hS => ?_
      have hM := qA hz hM; clear hz
      refine qz <| zh <| sM hS rfl fun hS => sM hS rfl fun hS => sB hS rfl fun hS => zb (v := Value.int .i64) (x0 := (ql (Yb + YI))) hS (zG rfl) rfl fun Yq a w hz hS => ?_
      have hM := qA hz hM; clear hz
      refine qK <| ze (qh ?_)
      refine zh <| sM hS rfl fun hS => sB hS rfl fun hS => zb (v := Value.int .i64) (x0 := (ql (Yh + (1 : Int)))) hS (zG rfl) rfl fun YX a w hz hS => ?_
      have hM := qA hz hM; clear hz
      refine qK <| qh ?_
      exact YS _ _ ⟨Yr, Yz, Ym, Yt, Yq, YX, hS.to [0, 1, 2, 3] (by kernel_rfl) ⟨rfl, rfl, rfl, rfl, rfl, rfl, rfl, trivial⟩, YB, hM⟩
   ·refine wp_exit ?_
    refine qu (qu (qJ (qh ?_)))
    exact YT _ _ ⟨Ye, Yn, hS.to [0, 1, 2, 3] (by kernel_rfl) ⟨rfl, rfl, trivial⟩, YE, hM⟩
 ·intro a w hI
  obtain ⟨Yl, YA, hS, YQ, hM⟩ := hI
  rw [q9.j2] at hM
  refine qo <| sM hS rfl fun hS => sO hS (Q2 3 rfl YD rfl ([.int .i64 Ya.place_.at_, yF Ya.text_]) rfl rfl Try.isAgg63 Try.sizeOf63) rfl fun hS => sO hS (vB rfl) rfl fun hS => Zy 0 ([.int .i64 Ya.place_.at_, yF Ya.text_]) ([.int .i64 Ya.place_.at_, yF Ya.text_]) hS rfl rfl YQ rfl rfl Try.sizeOf63 (by simp [Value.oneCell']) (Nat.le_of_ble_eq_true rfl) rfl fun w YZ YR hS => qz <| qo <| sA hS rfl fun hS => sA hS rfl fun hS => qz <| wp_ret ?_
  exact qZ (rs := [4, 5]) hS rfl rfl (hret (0 : Int) (3 : Int) Ya.place_.at_ YZ _ (qQ hM) YR (hS.st.pick [0, 1, 2] (by kernel_rfl)))
theorem z6 {H : zB} {F : List qr} {w : World} {R : Ending → World → Prop} {kr : Bool → Prop} {kp : Value → Prop} (hG : Gl H) (K : Nat) (Ya : List Int) (Yb : List Int) (Yd : Option Addr) (Yf : Nat) (Ye : Option Addr) (Yg : Nat) (Yj : xx H [] F (ci .i64) Yd Ya) (Ys : Ya.length ≤ Yf) (Yk : xx H [] F (ci .i64) Ye Yb) (Yt : Yb.length ≤ Yg)
    (hS : St w H [] F) (hm : (qF.m K Ya Yb).wp kr kp)
    (hret : ∀ (Ym : Bool) (w : World), kr Ym → St w H [] F → R (.returned (.bool Ym)) w) :
    Calls Try.prog 11 ⟨[.slice Yd Ya.length Yf, .slice Ye Yb.length Yg]⟩ w R := by
 refine enter Try.func11 rfl Try.ntmps11 rfl hS fun a w hS => ?_
 have hM := hm; clear hm
 rw [qF.m] at hM
 refine qo <| sA hS rfl fun hS => qz <| wp_seq <| qo <| sM hS rfl fun hS => sO hS (zC rfl Try.runUnderlying22) rfl fun hS => sM hS rfl fun hS => sO hS (zC rfl Try.runUnderlying22) rfl fun hS => sB hS rfl fun hS => qz <| qv hS rfl hM (fun Yo hM => ?_) (fun Yo hM => ?_)
 ·refine wp_seq ?_
  refine zh <| sA hS rfl fun hS => qz <| wp_ret <| qy ?_
  exact qZ (rs := [4]) hS rfl rfl (hret false _ (qQ hM) (hS.st.pick [] (by kernel_rfl)))
 ·refine wp_skip ?_
  refine qh <| wp_seq <| qo <| sA hS rfl fun hS => qz <| zP <| qU (fun Yl a w => ∃ (Yc : Int), Ss 26 [] [(0, .slice Yd Ya.length Yf), (1, .slice Ye Yb.length Yg), (5, .int .i64 Yc)] H [] F a w ∧ (qF.l1 K Ya Yb Yl Yc).wp kr kp) K ?_ ?_ ?_
  ·exact ⟨(0 : Int), hS.to [] (by kernel_rfl) ⟨rfl, rfl, rfl, trivial⟩, hM⟩
  ·intro a w hI; obtain ⟨_, _, hM⟩ := hI; exact qS hM
  ·intro Yl a w hI Yu Yn
   obtain ⟨Yc, hS, hM⟩ := hI
   rw [qF.l1] at hM
   refine wp_seq <| qo <| sM hS rfl fun hS => sM hS rfl fun hS => sO hS (zC rfl Try.runUnderlying22) rfl fun hS => sB hS rfl fun hS => qz <| qv hS rfl hM (fun Yp hM => ?_) (fun Yp hM => ?_)
   ·refine wp_skip ?_
    refine qh <| wp_seq <| zP <| wp_seq ?_
    obtain ⟨Yh, hM⟩ := qx hM
    obtain ⟨Yi, hM⟩ := qx hM
    refine zc (vals := [some (.slice Yd Ya.length Yf), some (.int .i64 Yc), some (zn Yd (Int.toNat Yc * 1)), some (.int .i64 (rd Ya Yc)), some (.slice Ye Yb.length Yg), some (.int .i64 Yc), some (zn Ye (Int.toNat Yc * 1)), some (.int .i64 (rd Yb Yc)), some (.bool ((rd Ya Yc) != (rd Yb Yc)))]) hS xc rfl ?_
    intro l w ho hcl hA hst
    refine x8 hA hst ho hcl xe [0, 1, 2, 3, 4, 5, 6, 7, 8] rfl rfl rfl (by exact ⟨nM rfl, nM rfl, nQ rfl (by exact qW (zM rfl rfl Try.runUnderlying22 Try.sizeOf3 Yj.wk (fun _ => rfl) rfl Yh) rfl), nQ rfl (by exact qW (zL rfl Yj.wk (fun _ => rfl) Yh rfl Try.isAgg3) rfl), nM rfl, nM rfl, nQ rfl (by exact qW (zM rfl rfl Try.runUnderlying22 Try.sizeOf3 Yk.wk (fun _ => rfl) rfl Yi) rfl), nQ rfl (by exact qW (zL rfl Yk.wk (fun _ => rfl) Yi rfl Try.isAgg3) rfl), nB rfl, trivial⟩) fun a w hS => ?_
    replace hS := hS.env2 (e' := [(0, .slice Yd Ya.length Yf), (1, .slice Ye Yb.length Yg), (5, .int .i64 Yc), (25, .bool ((rd Ya Yc) != (rd Yb Yc)))]) ⟨rfl, rfl, rfl, rfl, trivial⟩
    refine qh <| qv hS rfl hM (fun Yq hM => ?_) (fun Yq hM => ?_)
    ·refine wp_seq ?_
     refine zh <| sA hS rfl fun hS => qz <| wp_ret <| zy (qy (qy (zy (qy ?_))))
     exact qZ (rs := [4]) hS rfl rfl (hret false _ (qQ hM) (hS.st.pick [] (by kernel_rfl)))
    ·refine wp_skip ?_
     refine ze (qh ?_)
     refine zh <| sM hS rfl fun hS => sB hS rfl fun hS => zb (v := Value.int .i64) (x0 := (ql (Yc + (1 : Int)))) hS (zG rfl) rfl fun Yr a w hz hS => ?_
     have hM := qA hz hM; clear hz
     refine qK <| qh ?_
     exact Yn _ _ ⟨Yr, hS.to [] (by kernel_rfl) ⟨rfl, rfl, rfl, trivial⟩, hM⟩
   ·refine wp_exit ?_
    refine qu (qu (qJ (qh ?_)))
    refine qo <| sA hS rfl fun hS => qz <| wp_ret ?_
    exact qZ (rs := [4]) hS rfl rfl (hret true _ (qQ hM) (hS.st.pick [] (by kernel_rfl)))
theorem yY {H : zB} {F : List qr} {w : World} {R : Ending → World → Prop} {kr : Unit → Prop} {kp : Value → Prop} (hG : Gl H) (K : Nat) (Ya : qM) (Yc : Nat) (Yb : qr) (Yd : xw Yb Yc ([.int .i64 Ya.place_.at_, yF Ya.text_]) 63)
    (hS : St w H [Yb] F) (hm : (xH.m K Ya).wp kr kp)
    (hret : ∀ (w : World), kr () → St w H [Yb] F → R (.returned (.int .i64 Ya.place_.at_)) w) :
    Calls Try.prog 19 ⟨[xg Yc 0]⟩ w R := by
 refine enter Try.func19 rfl Try.ntmps19 rfl hS fun a w hS => ?_
 have hM := hm; clear hm
 rw [xH.m] at hM
 refine qo <| sA hS rfl fun hS => qz <| wp_seq <| qo <| sM hS rfl fun hS => sO hS (jV rfl rfl Try.runUnderlying33) rfl fun hS => qz <| uO hS rfl <| wp_skip <| qh <| qo <| sM hS rfl fun hS => sO hS (vB rfl) rfl fun hS => sO hS (yZ rfl Try.runUnderlying63 rfl Try.sizeOf48 rfl) rfl fun hS => sO hS (yZ rfl Try.runUnderlying48 rfl Try.sizeOf3 rfl) rfl fun hS => sO hS (uh 0 rfl Yd rfl rfl Try.isAgg3) rfl fun hS => sA hS rfl fun hS => qz <| wp_ret ?_
 exact qZ (rs := [2]) hS rfl rfl (hret _ (qQ hM) (hS.st.pick [0] (by kernel_rfl)))
theorem zZ {H : zB} {F : List qr} {w : World} {R : Ending → World → Prop} {kr : Bool → Prop} {kp : Value → Prop} (hG : Gl H) (K : Nat)
    (hS : St w H [] F) (hm : (qH.m K).wp kr kp)
    (hret : ∀ (YR : Bool) (w : World), kr YR → St w H [] F → R (.returned (.bool YR)) w)
    (hpan : ∀ v w, kp v → St w H [] F → R (.panicked [⟨v, false, false⟩]) w) :
    Calls Try.prog 14 ⟨[]⟩ w R := by
 refine enter Try.func14 rfl Try.ntmps14 rfl hS fun a w hS => ?_
 have hM := hm; clear hm
 rw [qH.m] at hM
 refine qo <| sA hS rfl fun hS => qz <| qo <| Qc (g := (ci .i64)) ([(2 : Int), (1 : Int), (3 : Int), (3 : Int)] : List Int) [.int .i64 (2 : Int), .int .i64 (1 : Int), .int .i64 (3 : Int), .int .i64 (3 : Int)] hS Try.runUnderlying22 Try.sizeOf3 X.el3 rfl rfl rfl (by simp [Value.cells]) rfl rfl rfl rfl rfl fun w A8 c9 YK Ja hS => qT hS rfl Try.call9 (vp hG K ([(2 : Int), (1 : Int), (3 : Int), (3 : Int)] : List Int) A8 c9 (Ja.rdF (i := 0) rfl) (Ja.cap (fun _ => rfl) rfl) (hS.st.part 0 [0] (by kernel_rfl)) (qE hM) (fun Jc Jf Ji Ym Yq w hM Y5 hst => qP hS.ev hst.appF rfl fun hS => ?_))
 replace hS : Ss _ _ _ H [Ym, YK] F _ _ := hS
 refine sM hS rfl fun hS => sO hS (ex rfl rfl) rfl fun hS => sO hS (ex rfl rfl) rfl fun hS => sA hS rfl fun hS => sA hS rfl fun hS => qz <| qo <| Qc (g := (ci .i64)) ([(2 : Int), (1 : Int), (3 : Int), (3 : Int)] : List Int) [.int .i64 (2 : Int), .int .i64 (1 : Int), .int .i64 (3 : Int), .int .i64 (3 : Int)] hS Try.runUnderlying22 Try.sizeOf3 X.el3 rfl rfl rfl (by simp [Value.cells]) rfl rfl rfl rfl rfl fun w Jd Jg Yp YO hS => qT hS rfl Try.call15 (ua hG K ([(2 : Int), (1 : Int), (3 : Int), (3 : Int)] : List Int) Jd Jg (YO.rdF (i := 0) rfl) (YO.cap (fun _ => rfl) rfl) (hS.st.part 0 [0, 1, 2] (by kernel_rfl)) (qE hM) (fun Jo Jj YS Yw w hM Y6 hst => qP hS.ev hst.appF rfl fun hS => ?_))
 replace hS : Ss _ _ _ H [YS, Yp, Ym, YK] F _ _ := hS
 refine sM hS rfl fun hS => sO hS (ex rfl rfl) rfl fun hS => sO hS (ex rfl rfl) rfl fun hS => sA hS rfl fun hS => sA hS rfl fun hS => qz <| qo <| Qc (g := (ci .i64)) ([(1 : Int), (1 : Int), (2 : Int), (4 : Int)] : List Int) [.int .i64 (1 : Int), .int .i64 (1 : Int), .int .i64 (2 : Int), .int .i64 (4 : Int)] hS Try.runUnderlying22 Try.sizeOf3 X.el3 rfl rfl rfl (by simp [Value.cells]) rfl rfl rfl rfl rfl fun w Je Jh Yv YP hS => qT hS rfl Try.call20 (yj hG K ([(1 : Int), (1 : Int), (2 : Int), (4 : Int)] : List Int) (15 : Int) Je Jh (YP.rdF (i := 0) rfl) (YP.cap (fun _ => rfl) rfl) (hS.st.part 0 [0, 1, 2, 3, 4] (by kernel_rfl)) (qE hM) (fun Jk Jn Ya Yg Yn w hM Ys hst => qP hS.ev hst.appF rfl fun hS => ?_) (fun v w hk hst => yr (q6 (⟨hS.ev.defs, hpan _ _ hk hst.appF.frame⟩))))
 replace hS : Ss _ _ _ H [Yg, Yv, YS, Yp, Ym, YK] F _ _ := hS
 refine sM hS rfl fun hS => sO hS (ex rfl rfl) rfl fun hS => sO hS (ex rfl rfl) rfl fun hS => sA hS rfl fun hS => sA hS rfl fun hS => qz <| qo <| qT hS rfl Try.call16 (vY hG K ([5] : List UInt8) (hS.st.part 0 [0, 1, 2, 3, 4, 5] (by kernel_rfl)) (qE hM) (fun Yr YL w hM Y7 hst => qP hS.ev hst.appF rfl fun hS => ?_))
 replace hS : Ss _ _ _ H [YL, Yg, Yv, YS, Yp, Ym, YK] F _ _ := hS
 refine sA hS rfl fun hS => qz <| wp_seq <| qo <| sM hS rfl fun hS => sO hS (Zl rfl rfl Try.runUnderlying30 Y6) rfl fun hS => sM hS rfl fun hS => xj 2 false 30 (b := Jj.isNone) (r := false) hS rfl rfl rfl rfl rfl rfl rfl (fun hb a w hS K hK => ?_) rfl fun a w hS => ?_
 ·refine qX hS rfl rfl rfl hb (mv rfl) rfl fun a w hS => ?_
  refine qX hS rfl rfl rfl hb (jV rfl rfl Try.runUnderlying33) rfl fun a w hS => ?_
  exact qK (hK _ _ (hS.up 2 rfl rfl))
 refine qz <| qv hS rfl hM (fun YU hM => ?_) (fun YU hM => ?_)
 ·refine wp_seq ?_
  refine zh <| sA hS rfl fun hS => qz <| wp_ret <| qy ?_
  exact qZ (rs := [0]) hS rfl rfl (hret false _ (qQ hM) (hS.st.pick [] (by kernel_rfl)))
 ·obtain ⟨YQ, YX, hM⟩ := ZC hM
  obtain ⟨YI, hA, YT⟩ := Y6.get YX
  obtain ⟨Yh, YH, YJ, Yi, hF, Yx, YF, YA⟩ := YT
  subst hA; subst hF
  replace hS := hS.front [3, 0, 1, 2, 4, 5, 6] (by kernel_rfl)
  replace hS := hS.splitF
  refine wp_skip <| qh <| qo <| sM hS rfl fun hS => sM hS rfl fun hS => qT hS rfl Try.call17 (xO hG K YQ (qM.mk (zp.mk (0 : Int)) ([5] : List UInt8)) YI Yh YH YJ Yi Yr YL Yx YF YA Y7 (hS.st.part 3 [0, 1, 2, 3, 4, 5, 6, 7] (by kernel_rfl)) (qE hM) (fun Ye Yk YG YM w hM Y8 hst => qP hS.ev hst.appF rfl fun hS => ?_))
  replace hS : Ss _ _ _ H [YM, Yh, Yi, Yg, Yv, Yp, Ym, YK] F _ _ := hS
  refine sM hS rfl fun hS => sO hS (ex rfl rfl) rfl fun hS => sO hS (ex rfl rfl) rfl fun hS => sA hS rfl fun hS => sA hS rfl fun hS => qz <| qo <| sM hS rfl fun hS => sM hS rfl fun hS => qT hS rfl Try.call17 (xO hG K YQ (qM.mk (zp.mk YG) ([5] : List UInt8)) YI Yh YH YJ Yi Yr YM Yx YF YA Y8 (hS.st.part 3 [1, 2, 0, 3, 4, 5, 6, 7] (by kernel_rfl)) (qE hM) (fun Yo Yu Yl Yj w hM Y9 hst => qP hS.ev hst.appF rfl fun hS => ?_))
  replace hS : Ss _ _ _ H [Yj, Yh, Yi, Yg, Yv, Yp, Ym, YK] F _ _ := hS
  refine sM hS rfl fun hS => sO hS (ex rfl rfl) rfl fun hS => sO hS (ex rfl rfl) rfl fun hS => sA hS rfl fun hS => sA hS rfl fun hS => qz <| qo <| sM hS rfl fun hS => Qc (g := (ci .i64)) ([(2 : Int), (0 : Int), (6 : Int), (7 : Int)] : List Int) [.int .i64 (2 : Int), .int .i64 (0 : Int), .int .i64 (6 : Int), .int .i64 (7 : Int)] hS Try.runUnderlying22 Try.sizeOf3 X.el3 rfl rfl rfl (by simp [Value.cells]) rfl rfl rfl rfl rfl fun w YY Y0 YN YB hS => qT hS rfl Try.call11 (z6 hG K Ji ([(2 : Int), (0 : Int), (6 : Int), (7 : Int)] : List Int) Jc Jf YY Y0 (Y5.rdF (i := 7) rfl) (Y5.cap (fun _ => rfl) rfl) (YB.rdF (i := 0) rfl) (YB.cap (fun _ => rfl) rfl) (hS.st.part 0 [0, 1, 2, 3, 4, 5, 6, 7, 8] (by kernel_rfl)) (qE hM) (fun Yf w hM  hst => qP hS.ev hst.appF rfl fun hS => ?_))
  replace hS : Ss _ _ _ H [YN, Yj, Yh, Yi, Yg, Yv, Yp, Ym, YK] F _ _ := hS
  refine sM hS rfl fun hS => xj 2 true 49 (b := Yf) (r := (Yq == (0 : Int))) hS rfl rfl rfl rfl rfl rfl rfl (fun hb a w hS K hK => ?_) rfl fun a w hS => ?_
  ·refine qX hS rfl rfl rfl hb (mv rfl) rfl fun a w hS => ?_
   refine qX hS rfl rfl rfl hb (xq rfl rfl rfl) rfl fun a w hS => ?_
   exact qK (hK _ _ (hS.up 2 rfl rfl))
  refine sM hS rfl fun hS => xj 2 true 53 (b := (Yf && (Yq == (0 : Int)))) (r := (Yw == (0 : Int))) hS rfl rfl rfl rfl rfl rfl rfl (fun hb a w hS K hK => ?_) rfl fun a w hS => ?_
  ·refine qX hS rfl rfl rfl hb (mv rfl) rfl fun a w hS => ?_
   refine qX hS rfl rfl rfl hb (xq rfl rfl rfl) rfl fun a w hS => ?_
   exact qK (hK _ _ (hS.up 2 rfl rfl))
  refine sM hS rfl fun hS => xj 2 true 57 (b := ((Yf && (Yq == (0 : Int))) && (Yw == (0 : Int)))) (r := (Yn == (0 : Int))) hS rfl rfl rfl rfl rfl rfl rfl (fun hb a w hS K hK => ?_) rfl fun a w hS => ?_
  ·refine qX hS rfl rfl rfl hb (mv rfl) rfl fun a w hS => ?_
   refine qX hS rfl rfl rfl hb (xq rfl rfl rfl) rfl fun a w hS => ?_
   exact qK (hK _ _ (hS.up 2 rfl rfl))
  refine sM hS rfl fun hS => xj 3 true 61 (b := (((Yf && (Yq == (0 : Int))) && (Yw == (0 : Int))) && (Yn == (0 : Int)))) (r := ((Ya.length : Int) == (4 : Int))) hS rfl rfl rfl rfl rfl rfl rfl (fun hb a w hS K hK => ?_) rfl fun a w hS => ?_
  ·refine qX hS rfl rfl rfl hb (mv rfl) rfl fun a w hS => ?_
   refine qX hS rfl rfl rfl hb (zC rfl Try.runUnderlying22) rfl fun a w hS => qX hS rfl rfl rfl hb (xq rfl rfl rfl) rfl fun a w hS => ?_
   exact qK (hK _ _ (hS.up 3 rfl rfl))
  refine sM hS rfl fun hS => ?_
  obtain ⟨YV, hM⟩ := qx hM
  refine xj 4 true 66 (b := ((((Yf && (Yq == (0 : Int))) && (Yw == (0 : Int))) && (Yn == (0 : Int))) && ((Ya.length : Int) == (4 : Int)))) (r := ((rd Ya (3 : Int)) == (1 : Int))) hS rfl rfl rfl rfl rfl rfl rfl (fun hb a w hS K hK => ?_) rfl fun a w hS => ?_
  ·refine qX hS rfl rfl rfl hb (mv rfl) rfl fun a w hS => ?_
   have YD := Qm YV hb
   refine qX hS rfl rfl rfl hb (zM rfl rfl Try.runUnderlying22 Try.sizeOf3 (Ys.rd (i := 4) rfl) (fun _ => rfl) rfl YD) rfl fun a w hS => qX hS rfl rfl rfl hb (zL rfl (Ys.rd (i := 4) rfl) (fun _ => rfl) YD rfl Try.isAgg3) rfl fun a w hS => qX hS rfl rfl rfl hb (xq rfl rfl rfl) rfl fun a w hS => ?_
   exact qK (hK _ _ (hS.up 4 rfl rfl))
  refine sM hS rfl fun hS => ?_
  obtain ⟨YW, hM⟩ := qx hM
  refine xj 4 true 72 (b := (((((Yf && (Yq == (0 : Int))) && (Yw == (0 : Int))) && (Yn == (0 : Int))) && ((Ya.length : Int) == (4 : Int))) && ((rd Ya (3 : Int)) == (1 : Int)))) (r := ((rd Ya (2 : Int)) == (2 : Int))) hS rfl rfl rfl rfl rfl rfl rfl (fun hb a w hS K hK => ?_) rfl fun a w hS => ?_
  ·refine qX hS rfl rfl rfl hb (mv rfl) rfl fun a w hS => ?_
   have YE := Qm YW hb
   refine qX hS rfl rfl rfl hb (zM rfl rfl Try.runUnderlying22 Try.sizeOf3 (Ys.rd (i := 4) rfl) (fun _ => rfl) rfl YE) rfl fun a w hS => qX hS rfl rfl rfl hb (zL rfl (Ys.rd (i := 4) rfl) (fun _ => rfl) YE rfl Try.isAgg3) rfl fun a w hS => qX hS rfl rfl rfl hb (xq rfl rfl rfl) rfl fun a w hS => ?_
   exact qK (hK _ _ (hS.up 4 rfl rfl))
  refine sM hS rfl fun hS => xi (fun a w => ∃ (Yb : Bool), Ss 104 [] [(7, xg Yr 0), (8, .int .i64 Ye), (9, .int .i64 Yk), (10, .int .i64 Yo), (11, .int .i64 Yu), (82, .bool Yb)] H [Yj] F a w ∧ (qH.j1 K Ye Yk Yo Yu Yl Yb).wp kr kp) 4 (fun Jl Yy => ?_) ?_
  ·refine uW (b := ((((((Yf && (Yq == (0 : Int))) && (Yw == (0 : Int))) && (Yn == (0 : Int))) && ((Ya.length : Int) == (4 : Int))) && ((rd Ya (3 : Int)) == (1 : Int))) && ((rd Ya (2 : Int)) == (2 : Int)))) hM (fun Yc hM => ?_) (fun Yc hM => ?_)
   ·replace hS := hS.re 77 (v := .bool true) rfl (congrArg Value.bool Yc)
    replace hS := hS.re 78 (v := .bool true) rfl (congrArg Value.bool Yc)
    refine xD hS rfl rfl rfl rfl <| Qc (g := (ci .i64)) ([(1 : Int), (1 : Int), (1 : Int)] : List Int) [.int .i64 (1 : Int), .int .i64 (1 : Int), .int .i64 (1 : Int)] hS Try.runUnderlying22 Try.sizeOf3 X.el3 rfl rfl rfl (by simp [Value.cells]) rfl rfl rfl rfl rfl fun w YZ Y3 Y4 YC hS => xD hS rfl rfl rfl rfl <| qT hS rfl Try.call12 (x3 hG K ([(1 : Int), (1 : Int), (1 : Int)] : List Int) YZ Y3 (YC.rdF (i := 0) rfl) (YC.cap (fun _ => rfl) rfl) (hS.st.part 0 [0, 1, 2, 3, 4, 5, 6, 7, 8, 9] (by kernel_rfl)) (qE hM) (fun Jb w hM  hst => qP hS.ev hst.appF rfl fun hS => ?_))
    replace hS : Ss _ _ _ H [Y4, YN, Yj, Yh, Yi, Yg, Yv, Yp, Ym, YK] F _ _ := hS
    refine qX hS rfl rfl rfl rfl (xq rfl rfl rfl) rfl fun a w hS => sO hS (pk rfl rfl rfl) rfl fun hS => qK <| qh ?_
    exact Yy _ _ ⟨(Jb == (3 : Int)), hS.to [2] (by kernel_rfl) ⟨rfl, rfl, rfl, rfl, rfl, rfl, trivial⟩, hM⟩
   ·replace hS := hS.re 77 (v := .bool false) rfl (congrArg Value.bool Yc)
    replace hS := hS.re 78 (v := .bool false) rfl (congrArg Value.bool Yc)
    refine yW 3 hS rfl fun a w hS => sO hS (pk rfl rfl rfl) rfl fun hS => qK <| qh ?_
    exact Yy _ _ ⟨false, hS.to [1] (by kernel_rfl) ⟨rfl, rfl, rfl, rfl, rfl, rfl, trivial⟩, hM⟩
  ·intro a w hI
   obtain ⟨Yb, hS, hM⟩ := hI
   rw [qH.j1] at hM
   refine sM hS rfl fun hS => xj 2 true 83 (b := Yb) (r := (Ye == (0 : Int))) hS rfl rfl rfl rfl rfl rfl rfl (fun hb a w hS K hK => ?_) rfl fun a w hS => ?_
   ·refine qX hS rfl rfl rfl hb (mv rfl) rfl fun a w hS => ?_
    refine qX hS rfl rfl rfl hb (xq rfl rfl rfl) rfl fun a w hS => ?_
    exact qK (hK _ _ (hS.up 2 rfl rfl))
   refine sM hS rfl fun hS => xj 2 true 87 (b := (Yb && (Ye == (0 : Int)))) (r := (Yk == (0 : Int))) hS rfl rfl rfl rfl rfl rfl rfl (fun hb a w hS K hK => ?_) rfl fun a w hS => ?_
   ·refine qX hS rfl rfl rfl hb (mv rfl) rfl fun a w hS => ?_
    refine qX hS rfl rfl rfl hb (xq rfl rfl rfl) rfl fun a w hS => ?_
    exact qK (hK _ _ (hS.up 2 rfl rfl))
   refine sM hS rfl fun hS => xj 2 true 91 (b := ((Yb && (Ye == (0 : Int))) && (Yk == (0 : Int)))) (r := (Yo == (0 : Int))) hS rfl rfl rfl rfl rfl rfl rfl (fun hb a w hS K hK => ?_) rfl fun a w hS => ?_
   ·refine qX hS rfl rfl rfl hb (mv rfl) rfl fun a w hS => ?_
    refine qX hS rfl rfl rfl hb (xq rfl rfl rfl) rfl fun a w hS => ?_
    exact qK (hK _ _ (hS.up 2 rfl rfl))
   refine sM hS rfl fun hS => xj 2 true 95 (b := (((Yb && (Ye == (0 : Int))) && (Yk == (0 : Int))) && (Yo == (0 : Int)))) (r := (Yu == (0 : Int))) hS rfl rfl rfl rfl rfl rfl rfl (fun hb a w hS K hK => ?_) rfl fun a w hS => ?_
   ·refine qX hS rfl rfl rfl hb (mv rfl) rfl fun a w hS => ?_
    refine qX hS rfl rfl rfl hb (xq rfl rfl rfl) rfl fun a w hS => ?_
    exact qK (hK _ _ (hS.up 2 rfl rfl))
   refine sM hS rfl fun hS => xi (fun a w => ∃ (Yt : Bool), Ss 104 [] [(103, .bool Yt)] H [] F a w ∧ (qH.j2 K Yt).wp kr kp) 4 (fun Jm Yz => ?_) ?_
   ·refine uW (b := ((((Yb && (Ye == (0 : Int))) && (Yk == (0 : Int))) && (Yo == (0 : Int))) && (Yu == (0 : Int)))) hM (fun Yd hM => ?_) (fun Yd hM => ?_)
    ·replace hS := hS.re 98 (v := .bool true) rfl (congrArg Value.bool Yd)
     replace hS := hS.re 99 (v := .bool true) rfl (congrArg Value.bool Yd)
     refine qX hS rfl rfl rfl rfl (mv rfl) rfl fun a w hS => xD hS rfl rfl rfl rfl <| qT hS rfl Try.call19 (yY hG K (qM.mk (zp.mk Yl) ([5] : List UInt8)) Yr Yj Y9 (hS.st.part 1 [0] (by kernel_rfl)) (qE hM) (fun  w hM  hst => qP hS.ev hst.appF rfl fun hS => ?_))
     replace hS : Ss _ _ _ H [Yj] F _ _ := hS
     refine qX hS rfl rfl rfl rfl (xq rfl rfl rfl) rfl fun a w hS => sO hS (pk rfl rfl rfl) rfl fun hS => qK <| qh ?_
     exact Yz _ _ ⟨(Yl == (4 : Int)), hS.to [] (by kernel_rfl) ⟨rfl, trivial⟩, hM⟩
    ·replace hS := hS.re 98 (v := .bool false) rfl (congrArg Value.bool Yd)
     replace hS := hS.re 99 (v := .bool false) rfl (congrArg Value.bool Yd)
     refine yW 3 hS rfl fun a w hS => sO hS (pk rfl rfl rfl) rfl fun hS => qK <| qh ?_
     exact Yz _ _ ⟨false, hS.to [] (by kernel_rfl) ⟨rfl, trivial⟩, hM⟩
   ·intro a w hI
    obtain ⟨Yt, hS, hM⟩ := hI
    rw [qH.j2] at hM
    refine sA hS rfl fun hS => qz <| wp_ret ?_
    exact qZ (rs := [0]) hS rfl rfl (hret Yt _ (qQ hM) (hS.st.pick [] (by kernel_rfl)))
theorem yp {H : zB} {F : List qr} {w : World} {R : Ending → World → Prop} {kr : Bool → Prop} {kp : Value → Prop} (hG : Gl H) (K : Nat) (Yb : List Int) (Ya : Int) (Yh : Option Addr) (Yi : Nat) (Yd : xx H [] F (ci .i64) Yh Yb) (Yw : Yb.length ≤ Yi)
    (hS : St w H [] F) (hm : (qC.m K Yb Ya).wp kr kp)
    (hret : ∀ (Yl : Bool) (w : World), kr Yl → St w H [] F → R (.returned (.bool Yl)) w) :
    Calls Try.prog 21 ⟨[.slice Yh Yb.length Yi, .int .i64 Ya]⟩ w R := by
 refine enter Try.func21 rfl Try.ntmps21 rfl hS fun a w hS => ?_
 have hM := hm; clear hm
 rw [qC.m] at hM
 refine qo <| sA hS rfl fun hS => qz <| wp_seq <| qo <| sM hS rfl fun hS => sB hS rfl fun hS => sM hS rfl fun hS => xj 2 false 9 (b := (decide (Ya < (1 : Int)))) (r := (decide (Ya > (15 : Int)))) hS rfl rfl rfl rfl rfl rfl rfl (fun hb a w hS K hK => ?_) rfl fun a w hS => ?_
 ·refine qX hS rfl rfl rfl hb (mv rfl) rfl fun a w hS => ?_
  refine qX hS rfl rfl rfl hb (xq rfl rfl rfl) rfl fun a w hS => ?_
  exact qK (hK _ _ (hS.up 2 rfl rfl))
 refine sM hS rfl fun hS => xj 3 false 13 (b := ((decide (Ya < (1 : Int))) || (decide (Ya > (15 : Int))))) (r := (decide ((Yb.length : Int) > (320 : Int)))) hS rfl rfl rfl rfl rfl rfl rfl (fun hb a w hS K hK => ?_) rfl fun a w hS => ?_
 ·refine qX hS rfl rfl rfl hb (mv rfl) rfl fun a w hS => ?_
  refine qX hS rfl rfl rfl hb (zC rfl Try.runUnderlying22) rfl fun a w hS => qX hS rfl rfl rfl hb (xq rfl rfl rfl) rfl fun a w hS => ?_
  exact qK (hK _ _ (hS.up 3 rfl rfl))
 refine qz <| qv hS rfl hM (fun Yn hM => ?_) (fun Yn hM => ?_)
 ·refine wp_seq ?_
  refine zh <| sA hS rfl fun hS => qz <| wp_ret <| qy ?_
  exact qZ (rs := [4]) hS rfl rfl (hret false _ (qQ hM) (hS.st.pick [] (by kernel_rfl)))
 ·refine wp_skip ?_
  refine qh <| qo <| sA hS rfl fun hS => qz <| qR (fun a w => ∃ (Yg : Int), Ss 48 [] [(1, .int .i64 Ya), (5, .int .i64 Yg)] H [] F a w ∧ (qC.j2 K Ya Yg).wp kr kp) (fun Yy Ym => ?_) ?_
  ·refine wp_seq ?_
   refine zh <| sA hS rfl fun hS => qz <| zP <| qU (fun Yk a w => ∃ (Ye : Int) (Yf : Int), Ss 48 [] [(0, .slice Yh Yb.length Yi), (1, .int .i64 Ya), (5, .int .i64 Ye), (6, .int .i64 Yf)] H [] F a w ∧ (qC.l1 K Yb Ya Yk Ye Yf).wp kr kp) K ?_ ?_ ?_
   ·exact ⟨(0 : Int), (0 : Int), hS.to [] (by kernel_rfl) ⟨rfl, rfl, rfl, rfl, trivial⟩, hM⟩
   ·intro a w hI; obtain ⟨_, _, _, hM⟩ := hI; exact qS hM
   ·intro Yk a w hI Yx Yj
    obtain ⟨Ye, Yf, hS, hM⟩ := hI
    rw [qC.l1] at hM
    refine wp_seq <| qo <| sM hS rfl fun hS => sM hS rfl fun hS => sO hS (zC rfl Try.runUnderlying22) rfl fun hS => sB hS rfl fun hS => qz <| qv hS rfl hM (fun Yo hM => ?_) (fun Yo hM => ?_)
    ·refine wp_skip ?_
     refine qh <| wp_seq <| zP <| wp_seq <| qo <| sM hS rfl fun hS => sM hS rfl fun hS => ?_
     obtain ⟨Yc, hM⟩ := qx hM
     refine sO hS (zM rfl rfl Try.runUnderlying22 Try.sizeOf3 Yd.wk (fun _ => rfl) rfl Yc) rfl fun hS => sO hS (zL rfl Yd.wk (fun _ => rfl) Yc rfl Try.isAgg3) rfl fun hS => sB hS rfl fun hS => sM hS rfl fun hS => xj 5 false 29 (b := (decide ((rd Yb Yf) < (0 : Int)))) (r := (decide ((rd Yb Yf) > (1099511627776 : Int)))) hS rfl rfl rfl rfl rfl rfl rfl (fun hb a w hS K hK => ?_) rfl fun a w hS => ?_
     ·refine qX hS rfl rfl rfl hb (mv rfl) rfl fun a w hS => ?_
      refine qX hS rfl rfl rfl hb (mv rfl) rfl fun a w hS => qX hS rfl rfl rfl hb (zM rfl rfl Try.runUnderlying22 Try.sizeOf3 Yd.wk (fun _ => rfl) rfl Yc) rfl fun a w hS => qX hS rfl rfl rfl hb (zL rfl Yd.wk (fun _ => rfl) Yc rfl Try.isAgg3) rfl fun a w hS => qX hS rfl rfl rfl hb (xq rfl rfl rfl) rfl fun a w hS => ?_
      exact qK (hK _ _ (hS.up 5 rfl rfl))
     refine qz <| qv hS rfl hM (fun Yp hM => ?_) (fun Yp hM => ?_)
     ·refine wp_seq ?_
      refine zh <| sA hS rfl fun hS => qz <| wp_ret <| qy (zy (qy (qy (zy (qy ?_)))))
      exact qZ (rs := [4]) hS rfl rfl (hret false _ (qQ hM) (hS.st.pick [] (by kernel_rfl)))
     ·refine wp_skip ?_
      refine qh <| qo <| sM hS rfl fun hS => sM hS rfl fun hS => sO hS (zM rfl rfl Try.runUnderlying22 Try.sizeOf3 Yd.wk (fun _ => rfl) rfl Yc) rfl fun hS => sO hS (zL rfl Yd.wk (fun _ => rfl) Yc rfl Try.isAgg3) rfl fun hS => sB hS rfl fun hS => qz <| qv hS rfl hM (fun Yq hM => ?_) (fun Yq hM => ?_)
      ·refine zh ?_
       refine sM hS rfl fun hS => sB hS rfl fun hS => zb (v := Value.int .i64) (x0 := (ql (Ye + (1 : Int)))) hS (zG rfl) rfl fun Ys a w hz hS => ?_
       have hM := qA hz hM; clear hz
       refine qK <| ze (qh ?_)
       refine zh <| sM hS rfl fun hS => sB hS rfl fun hS => zb (v := Value.int .i64) (x0 := (ql (Yf + (1 : Int)))) hS (zG rfl) rfl fun Yt a w hz hS => ?_
       have hM := qA hz hM; clear hz
       refine qK <| qh ?_
       exact Yj _ _ ⟨Ys, Yt, hS.to [] (by kernel_rfl) ⟨rfl, rfl, rfl, rfl, trivial⟩, hM⟩
      ·refine wp_skip ?_
       refine ze (qh ?_)
       refine zh <| sM hS rfl fun hS => sB hS rfl fun hS => zb (v := Value.int .i64) (x0 := (ql (Yf + (1 : Int)))) hS (zG rfl) rfl fun Yu a w hz hS => ?_
       have hM := qA hz hM; clear hz
       refine qK <| qh ?_
       exact Yj _ _ ⟨Ye, Yu, hS.to [] (by kernel_rfl) ⟨rfl, rfl, rfl, rfl, trivial⟩, hM⟩
    ·refine wp_exit ?_
     refine qu (qu (qJ (qh ?_)))
     exact Ym _ _ ⟨Ye, hS.to [] (by kernel_rfl) ⟨rfl, rfl, trivial⟩, hM⟩
  ·intro a w hI
   obtain ⟨Yg, hS, hM⟩ := hI
   rw [qC.j2] at hM
   refine qo <| sM hS rfl fun hS => sM hS rfl fun hS => sO hS (v7 rfl Try.runUnderlying3 Try.runUnderlying46) rfl fun hS => ?_
   obtain ⟨Yr, hM⟩ := qx hM
   refine sO hS (shl rfl rfl Yr) rfl fun hS => sB hS rfl fun hS => zb (v := Value.bool) (x0 := (decide (Yg ≤ (xn .i64 (1 : Int) (wr .u64 Ya))))) hS (zG rfl) rfl fun Yv a w hz hS => ?_
   have hM := qA hz hM; clear hz
   refine qz <| wp_ret ?_
   exact qZ (rs := [4]) hS rfl rfl (hret Yv _ (qQ hM) (hS.st.pick [] (by kernel_rfl)))
theorem yn {H : zB} {F : List qr} {w : World} {R : Ending → World → Prop} {kr : Int → Prop} {kp : Value → Prop} (hG : Gl H) (K : Nat) (Yd : List Int) (Yo : Option Addr) (Yp : Nat) (Yc : xx H [] F (ci .i64) Yo Yd) (YH : Yd.length ≤ Yp)
    (hS : St w H [] F) (hm : (qn.m K Yd).wp kr kp)
    (hret : ∀ (Yw : Int) (w : World), kr Yw → St w H [] F → R (.returned (.int .i64 Yw)) w) :
    Calls Try.prog 13 ⟨[.slice Yo Yd.length Yp]⟩ w R := by
 refine enter Try.func13 rfl Try.ntmps13 rfl hS fun a w hS => ?_
 have hM := hm; clear hm
 rw [qn.m] at hM
 refine qo <| sA hS rfl fun hS => qz <| wp_seq <| qo <| sM hS rfl fun hS => sO hS (zC rfl Try.runUnderlying22) rfl fun hS => sB hS rfl fun hS => qz <| qv hS rfl hM (fun Yy hM => ?_) (fun Yy hM => ?_)
 ·refine wp_seq ?_
  refine zh <| sA hS rfl fun hS => qz <| wp_ret <| qy ?_
  exact qZ (rs := [2]) hS rfl rfl (hret (1 : Int) _ (qQ hM) (hS.st.pick [] (by kernel_rfl)))
 ·refine wp_skip ?_
  refine qh <| qo <| sA hS rfl fun hS => qz <| qo <| sA hS rfl fun hS => qz <| qo <| sA hS rfl fun hS => qz <| qR (fun a w => ∃ (Ya : Int) (Yl : Int) (Yh : Int), Ss 62 [] [(3, .int .i64 Ya), (4, .int .i64 Yl), (5, .int .i64 Yh)] H [] F a w ∧ (qn.j2 K Ya Yl Yh).wp kr kp) (fun YJ Yx => ?_) ?_
  ·refine wp_seq ?_
   refine zh <| sA hS rfl fun hS => qz <| zP <| qU (fun Yv a w => ∃ (Yf : Int) (Yi : Int) (Ye : Int) (Yg : Int), Ss 62 [] [(0, .slice Yo Yd.length Yp), (3, .int .i64 Yf), (4, .int .i64 Yi), (5, .int .i64 Ye), (6, .int .i64 Yg)] H [] F a w ∧ (qn.l1 K Yd Yv Yf Yi Ye Yg).wp kr kp) K ?_ ?_ ?_
   ·exact ⟨(0 : Int), (0 : Int), (0 : Int), (0 : Int), hS.to [] (by kernel_rfl) ⟨rfl, rfl, rfl, rfl, rfl, trivial⟩, hM⟩
   ·intro a w hI; obtain ⟨_, _, _, _, _, hM⟩ := hI; exact qS hM
   ·intro Yv a w hI YI Yq
    obtain ⟨Yf, Yi, Ye, Yg, hS, hM⟩ := hI
    rw [qn.l1] at hM
    refine wp_seq <| qo <| sM hS rfl fun hS => sM hS rfl fun hS => sO hS (zC rfl Try.runUnderlying22) rfl fun hS => sB hS rfl fun hS => qz <| qv hS rfl hM (fun Yz hM => ?_) (fun Yz hM => ?_)
    ·refine wp_skip ?_
     refine qh <| wp_seq <| zP <| wp_seq <| qo <| sM hS rfl fun hS => sM hS rfl fun hS => ?_
     obtain ⟨Yb, hM⟩ := qx hM
     refine sO hS (zM rfl rfl Try.runUnderlying22 Try.sizeOf3 Yc.wk (fun _ => rfl) rfl Yb) rfl fun hS => sO hS (zL rfl Yc.wk (fun _ => rfl) Yb rfl Try.isAgg3) rfl fun hS => sB hS rfl fun hS => sM hS rfl fun hS => xj 5 false 21 (b := (decide ((rd Yd Yg) < (0 : Int)))) (r := (decide ((rd Yd Yg) > (15 : Int)))) hS rfl rfl rfl rfl rfl rfl rfl (fun hb a w hS K hK => ?_) rfl fun a w hS => ?_
     ·refine qX hS rfl rfl rfl hb (mv rfl) rfl fun a w hS => ?_
      refine qX hS rfl rfl rfl hb (mv rfl) rfl fun a w hS => qX hS rfl rfl rfl hb (zM rfl rfl Try.runUnderlying22 Try.sizeOf3 Yc.wk (fun _ => rfl) rfl Yb) rfl fun a w hS => qX hS rfl rfl rfl hb (zL rfl Yc.wk (fun _ => rfl) Yb rfl Try.isAgg3) rfl fun a w hS => qX hS rfl rfl rfl hb (xq rfl rfl rfl) rfl fun a w hS => ?_
      exact qK (hK _ _ (hS.up 5 rfl rfl))
     refine qz <| qv hS rfl hM (fun YA hM => ?_) (fun YA hM => ?_)
     ·refine wp_seq ?_
      refine zh <| sA hS rfl fun hS => qz <| wp_ret <| qy (zy (qy (qy (zy (qy ?_)))))
      exact qZ (rs := [2]) hS rfl rfl (hret (1 : Int) _ (qQ hM) (hS.st.pick [] (by kernel_rfl)))
     ·refine wp_skip ?_
      refine qh <| qo <| sM hS rfl fun hS => sM hS rfl fun hS => sO hS (zM rfl rfl Try.runUnderlying22 Try.sizeOf3 Yc.wk (fun _ => rfl) rfl Yb) rfl fun hS => sO hS (zL rfl Yc.wk (fun _ => rfl) Yb rfl Try.isAgg3) rfl fun hS => sB hS rfl fun hS => qz <| qv hS rfl hM (fun YB hM => ?_) (fun YB hM => ?_)
      ·refine wp_seq ?_
       refine zh <| sM hS rfl fun hS => sM hS rfl fun hS => sM hS rfl fun hS => sO hS (zM rfl rfl Try.runUnderlying22 Try.sizeOf3 Yc.wk (fun _ => rfl) rfl Yb) rfl fun hS => sO hS (zL rfl Yc.wk (fun _ => rfl) Yb rfl Try.isAgg3) rfl fun hS => sB hS rfl fun hS => sO hS (v7 rfl Try.runUnderlying3 Try.runUnderlying46) rfl fun hS => ?_
       obtain ⟨YD, hM⟩ := qx hM
       refine sO hS (shl rfl rfl YD) rfl fun hS => sB hS rfl fun hS => zb (v := Value.int .i64) (x0 := (ql (Yf + (xn .i64 (1 : Int) (wr .u64 (ql ((15 : Int) - (rd Yd Yg)))))))) hS (zG rfl) rfl fun Yu a w hz hS => ?_
       have hM := qA hz hM; clear hz
       refine qz <| qo <| sM hS rfl fun hS => sB hS rfl fun hS => zb (v := Value.int .i64) (x0 := (ql (Yi + (1 : Int)))) hS (zG rfl) rfl fun YE a w hz hS => ?_
       have hM := qA hz hM; clear hz
       refine qz <| zh <| sM hS rfl fun hS => sM hS rfl fun hS => sO hS (zM rfl rfl Try.runUnderlying22 Try.sizeOf3 Yc.wk (fun _ => rfl) rfl Yb) rfl fun hS => sO hS (zL rfl Yc.wk (fun _ => rfl) Yb rfl Try.isAgg3) rfl fun hS => zb (v := Value.int .i64) (x0 := (rd Yd Yg)) hS (zG rfl) rfl fun Yt a w hz hS => ?_
       have hM := qA hz hM; clear hz
       refine qK <| ze (qh ?_)
       refine zh <| sM hS rfl fun hS => sB hS rfl fun hS => zb (v := Value.int .i64) (x0 := (ql (Yg + (1 : Int)))) hS (zG rfl) rfl fun YF a w hz hS => ?_
       have hM := qA hz hM; clear hz
       refine qK <| qh ?_
       exact Yq _ _ ⟨Yu, YE, Yt, YF, hS.to [] (by kernel_rfl) ⟨rfl, rfl, rfl, rfl, rfl, trivial⟩, hM⟩
      ·refine wp_skip ?_
       refine ze (qh ?_)
       refine zh <| sM hS rfl fun hS => sB hS rfl fun hS => zb (v := Value.int .i64) (x0 := (ql (Yg + (1 : Int)))) hS (zG rfl) rfl fun YG a w hz hS => ?_
       have hM := qA hz hM; clear hz
       refine qK <| qh ?_
       exact Yq _ _ ⟨Yf, Yi, Ye, YG, hS.to [] (by kernel_rfl) ⟨rfl, rfl, rfl, rfl, rfl, trivial⟩, hM⟩
    ·refine wp_exit ?_
     refine qu (qu (qJ (qh ?_)))
     exact Yx _ _ ⟨Yf, Yi, Ye, hS.to [] (by kernel_rfl) ⟨rfl, rfl, rfl, trivial⟩, hM⟩
  ·intro a w hI
   obtain ⟨Ya, Yl, Yh, hS, hM⟩ := hI
   rw [qn.j2] at hM
   refine wp_seq <| qo <| sM hS rfl fun hS => sB hS rfl fun hS => sM hS rfl fun hS => xi (fun a w => ∃ (Yn : Bool), Ss 62 [] [(3, .int .i64 Ya), (57, .bool Yn)] H [] F a w ∧ (qn.j4 K Ya Yn).wp kr kp) 7 (fun YL Ys => ?_) ?_
   ·refine uW (b := (Yl == (0 : Int))) hM (fun Yj hM => ?_) (fun Yj hM => ?_)
    ·replace hS := hS.re 49 (v := .bool true) rfl (congrArg Value.bool Yj)
     replace hS := hS.re 50 (v := .bool true) rfl (congrArg Value.bool Yj)
     refine yW 6 hS rfl fun a w hS => sO hS (pk rfl rfl rfl) rfl fun hS => qK <| qh ?_
     exact Ys _ _ ⟨true, hS.to [] (by kernel_rfl) ⟨rfl, rfl, trivial⟩, hM⟩
    ·replace hS := hS.re 49 (v := .bool false) rfl (congrArg Value.bool Yj)
     replace hS := hS.re 50 (v := .bool false) rfl (congrArg Value.bool Yj)
     refine qX hS rfl rfl rfl rfl (mv rfl) rfl fun a w hS => qX hS rfl rfl rfl rfl (xq rfl rfl rfl) rfl fun a w hS => qX hS rfl rfl rfl rfl (mv rfl) rfl fun a w hS => xi (fun a w => ∃ (Ym : Bool), Ss 62 [] [(3, .int .i64 Ya), (50, .bool false), (56, .bool Ym)] H [] F a w ∧ (qn.j3 K Ya Ym).wp kr kp) 3 (fun YK Yr => ?_) ?_
     ·refine uW (b := (Yl == (1 : Int))) hM (fun Yk hM => ?_) (fun Yk hM => ?_)
      ·replace hS := hS.re 52 (v := .bool true) rfl (congrArg Value.bool Yk)
       replace hS := hS.re 53 (v := .bool true) rfl (congrArg Value.bool Yk)
       refine qX hS rfl rfl rfl rfl (mv rfl) rfl fun a w hS => qX hS rfl rfl rfl rfl (xq rfl rfl rfl) rfl fun a w hS => qX hS rfl rfl rfl rfl (pk rfl rfl rfl) rfl fun a w hS => qK <| qh ?_
       exact Yr _ _ ⟨(Yh == (1 : Int)), hS.to [] (by kernel_rfl) ⟨rfl, rfl, rfl, trivial⟩, hM⟩
      ·replace hS := hS.re 52 (v := .bool false) rfl (congrArg Value.bool Yk)
       replace hS := hS.re 53 (v := .bool false) rfl (congrArg Value.bool Yk)
       refine yW 2 hS rfl fun a w hS => qX hS rfl rfl rfl rfl (pk rfl rfl rfl) rfl fun a w hS => qK <| qh ?_
       exact Yr _ _ ⟨false, hS.to [] (by kernel_rfl) ⟨rfl, rfl, rfl, trivial⟩, hM⟩
     ·intro a w hI
      obtain ⟨Ym, hS, hM⟩ := hI
      rw [qn.j3] at hM
      refine sO hS (pk rfl rfl rfl) rfl fun hS => qK <| qh ?_
      exact Ys _ _ ⟨Ym, hS.to [] (by kernel_rfl) ⟨rfl, rfl, trivial⟩, hM⟩
   ·intro a w hI
    obtain ⟨Yn, hS, hM⟩ := hI
    rw [qn.j4] at hM
    refine sM hS rfl fun hS => xj 2 false 58 (b := Yn) (r := (Ya == (32768 : Int))) hS rfl rfl rfl rfl rfl rfl rfl (fun hb a w hS K hK => ?_) rfl fun a w hS => ?_
    ·refine qX hS rfl rfl rfl hb (mv rfl) rfl fun a w hS => ?_
     refine qX hS rfl rfl rfl hb (xq rfl rfl rfl) rfl fun a w hS => ?_
     exact qK (hK _ _ (hS.up 2 rfl rfl))
    refine qz <| qv hS rfl hM (fun YC hM => ?_) (fun YC hM => ?_)
    ·refine wp_seq ?_
     refine zh <| sA hS rfl fun hS => qz <| wp_ret <| qy ?_
     exact qZ (rs := [2]) hS rfl rfl (hret (0 : Int) _ (qQ hM) (hS.st.pick [] (by kernel_rfl)))
    ·refine wp_skip ?_
     refine qh <| qo <| sA hS rfl fun hS => qz <| wp_ret ?_
     exact qZ (rs := [2]) hS rfl rfl (hret (3 : Int) _ (qQ hM) (hS.st.pick [] (by kernel_rfl)))
end Go.TryS

