/- Printed by a program of mine: each Go function answers what its model answers; conditions: what each theorem asks of memory. -/
import Derived.Test.YtlaobafbdllajaaDoorP1xopoml
set_option linter.unusedVariables false
set_option linter.unusedSimpArgs false
set_option maxRecDepth 100000
namespace Go.TrydS
open Go Go.Sl Go.Mo Go.Proofs
attribute [local irreducible] qN.wp
theorem xU {H : zv} {F : List qk} {w : World} {R : Ending → World → Prop} {kr : Bool → Prop} {kp : Value → Prop} (hG : Gl H) (K : Nat) (X3 : List qb) (X4 : List qb) (X6 : Option Addr) (X8 : Nat) (X7 : Option Addr) (X9 : Nat) (Yc : yR H [] F qb.cells X6 X3) (Yl : X3.length ≤ X8) (Yd : yR H [] F qb.cells X7 X4) (Ym : X4.length ≤ X9)
    (hS : St w H [] F) (hm : (qW.m K X3 X4).wp kr kp)
    (hret : ∀ (Ye : Bool) (w : World), kr Ye → St w H [] F → R (.returned (.bool Ye)) w) :
    Calls Tryd.prog 12 ⟨[.slice X6 X3.length X8, .slice X7 X4.length X9]⟩ w R := by
 refine enter Tryd.func12 rfl Tryd.ntmps12 rfl hS fun a w hS => ?_
 have hM := hm; clear hm
 rw [qW.m] at hM
 refine qh <| sA hS rfl fun hS => qq <| wp_seq <| qh <| sM hS rfl fun hS => sO hS (yb rfl Tryd.runUnderlying24) rfl fun hS => sM hS rfl fun hS => sO hS (yb rfl Tryd.runUnderlying24) rfl fun hS => sB hS rfl fun hS => qq <| qF hS rfl hM (fun Yg hM => ?_) (fun Yg hM => ?_)
 ·refine wp_seq ?_
  refine zC <| sA hS rfl fun hS => qq <| wp_ret <| qj ?_
  exact qP (rs := [4]) hS rfl rfl (hret false _ (qG hM) (hS.st.pick [] (by kernel_rfl)))
 ·refine wp_skip ?_
  refine qd <| wp_seq <| qh <| sA hS rfl fun hS => qq <| ya <| zD (fun Yj a w => ∃ (X5 : Int), Ss 26 [] [(0, .slice X6 X3.length X8), (1, .slice X7 X4.length X9), (5, .int .i64 X5)] H [] F a w ∧ (qW.l1 K X3 X4 Yj X5).wp kr kp) K ?_ ?_ ?_
  ·exact ⟨(0 : Int), hS.to [] (by kernel_rfl) ⟨rfl, rfl, rfl, trivial⟩, hM⟩
  ·intro a w hI; obtain ⟨_, _, hM⟩ := hI; exact zx hM
  ·intro Yj a w hI Yn Yf
   obtain ⟨X5, hS, hM⟩ := hI
   rw [qW.l1] at hM
   refine wp_seq <| qh <| sM hS rfl fun hS => sM hS rfl fun hS => sO hS (yb rfl Tryd.runUnderlying24) rfl fun hS => sB hS rfl fun hS => qq <| qF hS rfl hM (fun Yh hM => ?_) (fun Yh hM => ?_)
   ·refine wp_skip ?_
    refine qd <| wp_seq <| ya <| wp_seq ?_
    obtain ⟨Ya, hM⟩ := qM hM
    obtain ⟨Yb, hM⟩ := qM hM
    refine zg (vals := [some (.slice X6 X3.length X8), some (.int .i64 X5), some (jK X6 (Int.toNat X5 * 2)), some (.agg ⟨[qi ((rd X3 X5).Tag_), qi ((rd X3 X5).Data_)]⟩), some (.slice X7 X4.length X9), some (.int .i64 X5), some (jK X7 (Int.toNat X5 * 2)), some (.agg ⟨[qi ((rd X4 X5).Tag_), qi ((rd X4 X5).Data_)]⟩), some (.bool (!(((rd X3 X5).Tag_ == (rd X4 X5).Tag_) && (((rd X3 X5).Data_ == (rd X4 X5).Data_) && true))))]) hS xy rfl ?_
    intro l w ho hcl hA hst
    refine xu hA hst ho hcl xB [0, 1, 2, 3, 4, 5, 6, 7, 8] rfl rfl rfl (by exact ⟨nM rfl, nM rfl, nQ rfl (by exact qJ (v7 rfl rfl Tryd.runUnderlying24 Tryd.sizeOf36 Yc.wk (fun _ => rfl) rfl Ya) rfl), nQ rfl (by exact qJ (QT rfl Yc.wk (fun _ => rfl) Ya Tryd.isAgg36 Tryd.sizeOf36 rfl) rfl), nM rfl, nM rfl, nQ rfl (by exact qJ (v7 rfl rfl Tryd.runUnderlying24 Tryd.sizeOf36 Yd.wk (fun _ => rfl) rfl Yb) rfl), nQ rfl (by exact qJ (QT rfl Yd.wk (fun _ => rfl) Yb Tryd.isAgg36 Tryd.sizeOf36 rfl) rfl), nQ rfl (by exact qJ (Xa rfl rfl rfl (by kernel_rfl) (by kernel_rfl) (yn.cons (by decide) Tryd.isAgg9 rfl rfl (XD Tryd.runUnderlying9) (yn.cons (by decide) Tryd.isAgg9 rfl rfl (XD Tryd.runUnderlying9) yn.nil)) rfl) rfl), trivial⟩) fun a w hS => ?_
    replace hS := hS.env2 (e' := [(0, .slice X6 X3.length X8), (1, .slice X7 X4.length X9), (5, .int .i64 X5), (25, .bool (!(((rd X3 X5).Tag_ == (rd X4 X5).Tag_) && (((rd X3 X5).Data_ == (rd X4 X5).Data_) && true))))]) ⟨rfl, rfl, rfl, rfl, trivial⟩
    refine qd <| qF hS rfl hM (fun Yi hM => ?_) (fun Yi hM => ?_)
    ·refine wp_seq ?_
     refine zC <| sA hS rfl fun hS => qq <| wp_ret <| zl (qj (qj (zl (qj ?_))))
     exact qP (rs := [4]) hS rfl rfl (hret false _ (qG hM) (hS.st.pick [] (by kernel_rfl)))
    ·refine wp_skip ?_
     refine z9 (qd ?_)
     refine zC <| sM hS rfl fun hS => sB hS rfl fun hS => zk (v := Value.int .i64) (x0 := (qD (X5 + (1 : Int)))) hS (z1 rfl) rfl fun Yk a w hz hS => ?_
     have hM := qO hz hM; clear hz
     refine q6 <| qd ?_
     exact Yf _ _ ⟨Yk, hS.to [] (by kernel_rfl) ⟨rfl, rfl, rfl, trivial⟩, hM⟩
   ·refine wp_exit ?_
    refine qV (qV (zn (qd ?_)))
    refine qh <| sA hS rfl fun hS => qq <| wp_ret ?_
    exact qP (rs := [4]) hS rfl rfl (hret true _ (qG hM) (hS.st.pick [] (by kernel_rfl)))
theorem xS {H : zv} {F : List qk} {w : World} {R : Ending → World → Prop} {kr : Bool → Prop} {kp : Value → Prop} (hG : Gl H) (K : Nat)
    (hS : St w H [] F) (hm : (q8.m K).wp kr kp)
    (hret : ∀ (Yb : Bool) (w : World), kr Yb → St w H [] F → R (.returned (.bool Yb)) w) :
    Calls Tryd.prog 9 ⟨[]⟩ w R := by
 refine enter Tryd.func9 rfl Tryd.ntmps9 rfl hS fun a w hS => ?_
 have hM := hm; clear hm
 rw [q8.m] at hM
 refine qh <| sA hS rfl fun hS => qq <| qh <| sO hS (y7 ([qi ([104, 101, 97, 100] : List UInt8), qi ([97, 98, 99, 100, 101] : List UInt8)]) [(0, 1), (1, 1)] Tryd.zeroValue36 Tryd.runUnderlying36 (by intro w; simp [Tryd.sizeOf9]) rfl rfl) rfl fun hS => QG (g := qb.cells) ([(qb.mk ([104, 101, 97, 100] : List UInt8) ([97, 98, 99, 100, 101] : List UInt8))] : List qb) [.agg ⟨[qi ([104, 101, 97, 100] : List UInt8), qi ([97, 98, 99, 100, 101] : List UInt8)]⟩] hS Tryd.runUnderlying24 Tryd.sizeOf36 X.el36 rfl rfl rfl (by simp [Value.cells]) rfl rfl rfl rfl rfl fun w A3 c4 f5 hV6 hS => sA hS rfl fun hS => qq <| qh <| sM hS rfl fun hS => qn hS rfl Tryd.call14 (jn hG K (65536 : Int) ([(qb.mk ([104, 101, 97, 100] : List UInt8) ([97, 98, 99, 100, 101] : List UInt8))] : List qb) A3 c4 (hV6.rdF (i := 0) rfl) (hV6.cap (fun _ => rfl) rfl) (hS.st.part 0 [0] (by kernel_rfl)) (qg hM) (fun X6 X9 w hM  hst => ql hS.ev hst.appF rfl fun hS => ?_))
 replace hS : Ss _ _ _ H [f5] F _ _ := hS
 refine sM hS rfl fun hS => sO hS (ex rfl rfl) rfl fun hS => sO hS (ex rfl rfl) rfl fun hS => sA hS rfl fun hS => sA hS rfl fun hS => qq <| qh <| sM hS rfl fun hS => qn hS rfl Tryd.call10 (yJ hG K X6 (hS.st.part 0 [0] (by kernel_rfl)) (qg hM) (fun Yd Yi Yj Yk X8 Yh w hM Ye hst => ql hS.ev hst.appF rfl fun hS => ?_))
 replace hS : Ss _ _ _ H [X8, f5] F _ _ := hS
 refine sM hS rfl fun hS => sO hS (ex rfl rfl) rfl fun hS => sO hS (ex rfl rfl) rfl fun hS => sO hS (ex rfl rfl) rfl fun hS => sA hS rfl fun hS => sA hS rfl fun hS => sA hS rfl fun hS => qq <| qh <| qn hS rfl Tryd.call10 (yJ hG K ([] : List UInt8) (hS.st.part 0 [0, 1] (by kernel_rfl)) (qg hM) (fun Yp Ym Yn Yq Yc X7 w hM Yo hst => ql hS.ev hst.appF rfl fun hS => ?_))
 replace hS : Ss _ _ _ H [Yc, X8, f5] F _ _ := hS
 refine sM hS rfl fun hS => sO hS (ex rfl rfl) rfl fun hS => sO hS (ex rfl rfl) rfl fun hS => sO hS (ex rfl rfl) rfl fun hS => sA hS rfl fun hS => sA hS rfl fun hS => sA hS rfl fun hS => qq <| qh <| sM hS rfl fun hS => qn hS rfl Tryd.call14 (jn hG K (7 : Int) ([(qb.mk ([104, 101, 97, 100] : List UInt8) ([97, 98, 99, 100, 101] : List UInt8))] : List qb) A3 c4 (hV6.rdF (i := 2) rfl) (hV6.cap (fun _ => rfl) rfl) (hS.st.part 0 [0, 1, 2] (by kernel_rfl)) (qg hM) (fun Yr Ya w hM  hst => ql hS.ev hst.appF rfl fun hS => ?_))
 replace hS : Ss _ _ _ H [Yc, X8, f5] F _ _ := hS
 refine sM hS rfl fun hS => sO hS (ex rfl rfl) rfl fun hS => sO hS (ex rfl rfl) rfl fun hS => sA hS rfl fun hS => sA hS rfl fun hS => qq <| qh <| sM hS rfl fun hS => sO hS (xd rfl Tryd.runUnderlying9) rfl fun hS => sB hS rfl fun hS => sM hS rfl fun hS => z4 2 true 38 (b := ((X6.length : Int) == (36 : Int))) (r := (X9 == (0 : Int))) hS rfl rfl rfl rfl rfl rfl rfl (fun hb a w hS K hK => ?_) rfl fun a w hS => ?_
 ·refine qA hS rfl rfl rfl hb (mv rfl) rfl fun a w hS => ?_
  refine qA hS rfl rfl rfl hb (xp rfl rfl rfl) rfl fun a w hS => ?_
  exact q6 (hK _ _ (hS.up 2 rfl rfl))
 refine sM hS rfl fun hS => z4 2 true 42 (b := (((X6.length : Int) == (36 : Int)) && (X9 == (0 : Int)))) (r := (Yd == (65536 : Int))) hS rfl rfl rfl rfl rfl rfl rfl (fun hb a w hS K hK => ?_) rfl fun a w hS => ?_
 ·refine qA hS rfl rfl rfl hb (mv rfl) rfl fun a w hS => ?_
  refine qA hS rfl rfl rfl hb (xp rfl rfl rfl) rfl fun a w hS => ?_
  exact q6 (hK _ _ (hS.up 2 rfl rfl))
 refine sM hS rfl fun hS => z4 2 true 46 (b := ((((X6.length : Int) == (36 : Int)) && (X9 == (0 : Int))) && (Yd == (65536 : Int)))) (r := (Yh == (0 : Int))) hS rfl rfl rfl rfl rfl rfl rfl (fun hb a w hS K hK => ?_) rfl fun a w hS => ?_
 ·refine qA hS rfl rfl rfl hb (mv rfl) rfl fun a w hS => ?_
  refine qA hS rfl rfl rfl hb (xp rfl rfl rfl) rfl fun a w hS => ?_
  exact q6 (hK _ _ (hS.up 2 rfl rfl))
 refine sM hS rfl fun hS => xP (fun a w => ∃ (X3 : Bool), Ss 63 [] [(9, .int .i64 X7), (11, .int .i64 Ya), (54, .bool X3)] H [] F a w ∧ (q8.j1 K X7 Ya X3).wp kr kp) 4 (fun Yl X5 => ?_) ?_
 ·refine uC (b := (((((X6.length : Int) == (36 : Int)) && (X9 == (0 : Int))) && (Yd == (65536 : Int))) && (Yh == (0 : Int)))) hM (fun X4 hM => ?_) (fun X4 hM => ?_)
  ·replace hS := hS.re 49 (v := .bool true) rfl (congrArg Value.bool X4)
   replace hS := hS.re 50 (v := .bool true) rfl (congrArg Value.bool X4)
   refine qA hS rfl rfl rfl rfl (mv rfl) rfl fun a w hS => qA hS rfl rfl rfl rfl (mv rfl) rfl fun a w hS => xF hS rfl rfl rfl rfl <| qn hS rfl Tryd.call12 (xU hG K ([(qb.mk ([104, 101, 97, 100] : List UInt8) ([97, 98, 99, 100, 101] : List UInt8))] : List qb) Yk A3 c4 Yi Yj (hV6.rdF (i := 2) rfl) (hV6.cap (fun _ => rfl) rfl) (Ye.rdF (i := 1) rfl) (Ye.cap (fun _ => rfl) rfl) (hS.st.part 0 [0, 1, 2] (by kernel_rfl)) (qg hM) (fun Yg w hM  hst => ql hS.ev hst.appF rfl fun hS => ?_))
   replace hS : Ss _ _ _ H [Yc, X8, f5] F _ _ := hS
   refine sO hS (pk rfl rfl rfl) rfl fun hS => q6 <| qd ?_
   exact X5 _ _ ⟨Yg, hS.to [] (by kernel_rfl) ⟨rfl, rfl, rfl, trivial⟩, hM⟩
  ·replace hS := hS.re 49 (v := .bool false) rfl (congrArg Value.bool X4)
   replace hS := hS.re 50 (v := .bool false) rfl (congrArg Value.bool X4)
   refine jJ 3 hS rfl fun a w hS => sO hS (pk rfl rfl rfl) rfl fun hS => q6 <| qd ?_
   exact X5 _ _ ⟨false, hS.to [] (by kernel_rfl) ⟨rfl, rfl, rfl, trivial⟩, hM⟩
 ·intro a w hI
  obtain ⟨X3, hS, hM⟩ := hI
  rw [q8.j1] at hM
  refine sM hS rfl fun hS => z4 2 true 55 (b := X3) (r := (X7 == (2 : Int))) hS rfl rfl rfl rfl rfl rfl rfl (fun hb a w hS K hK => ?_) rfl fun a w hS => ?_
  ·refine qA hS rfl rfl rfl hb (mv rfl) rfl fun a w hS => ?_
   refine qA hS rfl rfl rfl hb (xp rfl rfl rfl) rfl fun a w hS => ?_
   exact q6 (hK _ _ (hS.up 2 rfl rfl))
  refine sM hS rfl fun hS => z4 2 true 59 (b := (X3 && (X7 == (2 : Int)))) (r := (Ya == (1 : Int))) hS rfl rfl rfl rfl rfl rfl rfl (fun hb a w hS K hK => ?_) rfl fun a w hS => ?_
  ·refine qA hS rfl rfl rfl hb (mv rfl) rfl fun a w hS => ?_
   refine qA hS rfl rfl rfl hb (xp rfl rfl rfl) rfl fun a w hS => ?_
   exact q6 (hK _ _ (hS.up 2 rfl rfl))
  refine zk (v := Value.bool) (x0 := ((X3 && (X7 == (2 : Int))) && (Ya == (1 : Int)))) hS (z1 rfl) rfl fun Yf a w hz hS => ?_
  have hM := qO hz hM; clear hz
  refine qq <| wp_ret ?_
  exact qP (rs := [0]) hS rfl rfl (hret Yf _ (qG hM) (hS.st.pick [] (by kernel_rfl)))
theorem xN {H : zv} {F : List qk} {w : World} {R : Ending → World → Prop} {kr : Bool → Prop} {kp : Value → Prop} (hG : Gl H) (K : Nat) (X3 : Int)
    (hS : St w H [] F) (hm : (zJ.m K X3).wp kr kp)
    (hret : ∀ (X4 : Bool) (w : World), kr X4 → St w H [] F → R (.returned (.bool X4)) w) :
    Calls Tryd.prog 77 ⟨[.int .i64 X3]⟩ w R := by
 refine enter Tryd.func77 rfl Tryd.ntmps77 rfl hS fun a w hS => ?_
 have hM := hm; clear hm
 rw [zJ.m] at hM
 refine qh <| sA hS rfl fun hS => qq <| qh <| sM hS rfl fun hS => sB hS rfl fun hS => sM hS rfl fun hS => z4 2 false 5 (b := (X3 == (1 : Int))) (r := (X3 == (2 : Int))) hS rfl rfl rfl rfl rfl rfl rfl (fun hb a w hS K hK => ?_) rfl fun a w hS => ?_
 ·refine qA hS rfl rfl rfl hb (mv rfl) rfl fun a w hS => ?_
  refine qA hS rfl rfl rfl hb (xp rfl rfl rfl) rfl fun a w hS => ?_
  exact q6 (hK _ _ (hS.up 2 rfl rfl))
 refine sM hS rfl fun hS => z4 2 false 9 (b := ((X3 == (1 : Int)) || (X3 == (2 : Int)))) (r := (X3 == (4 : Int))) hS rfl rfl rfl rfl rfl rfl rfl (fun hb a w hS K hK => ?_) rfl fun a w hS => ?_
 ·refine qA hS rfl rfl rfl hb (mv rfl) rfl fun a w hS => ?_
  refine qA hS rfl rfl rfl hb (xp rfl rfl rfl) rfl fun a w hS => ?_
  exact q6 (hK _ _ (hS.up 2 rfl rfl))
 refine sM hS rfl fun hS => z4 2 false 13 (b := (((X3 == (1 : Int)) || (X3 == (2 : Int))) || (X3 == (4 : Int)))) (r := (X3 == (8 : Int))) hS rfl rfl rfl rfl rfl rfl rfl (fun hb a w hS K hK => ?_) rfl fun a w hS => ?_
 ·refine qA hS rfl rfl rfl hb (mv rfl) rfl fun a w hS => ?_
  refine qA hS rfl rfl rfl hb (xp rfl rfl rfl) rfl fun a w hS => ?_
  exact q6 (hK _ _ (hS.up 2 rfl rfl))
 refine zk (v := Value.bool) (x0 := ((((X3 == (1 : Int)) || (X3 == (2 : Int))) || (X3 == (4 : Int))) || (X3 == (8 : Int)))) hS (z1 rfl) rfl fun X5 a w hz hS => ?_
 have hM := qO hz hM; clear hz
 refine qq <| wp_ret ?_
 exact qP (rs := [2]) hS rfl rfl (hret X5 _ (qG hM) (hS.st.pick [] (by kernel_rfl)))
theorem yS {H : zv} {F : List qk} {w : World} {R : Ending → World → Prop} {kr : (Int × Int) → Prop} {kp : Value → Prop} (hG : Gl H) (K : Nat) (X6 : List UInt8) (X4 : Int) (X3 : Int) (X5 : Bool)
    (hS : St w H [] F) (hm : (qw.m K X6 X4 X3 X5).wp kr kp)
    (hret : ∀ (Yc : Int) (Yd : Int) (w : World), kr (Yc, Yd) → St w H [] F → R (.returned (.tuple ⟨[.int .u64 Yc, .int .i64 Yd]⟩)) w) :
    Calls Tryd.prog 55 ⟨[qi X6, .int .i64 X4, .int .i64 X3, .bool X5]⟩ w R := by
 refine enter Tryd.func55 rfl Tryd.ntmps55 rfl hS fun a w hS => ?_
 have hM := hm; clear hm
 rw [qw.m] at hM
 refine qh <| sA hS rfl fun hS => sA hS rfl fun hS => qq <| wp_seq <| qh <| sM hS rfl fun hS => qn hS rfl Tryd.call77 (xN hG K X3 (hS.st.part 0 [] (by kernel_rfl)) (qg hM) (fun Yp w hM  hst => ql hS.ev hst.appF rfl fun hS => ?_))
 replace hS : Ss _ _ _ H [] F _ _ := hS
 refine sO hS (un rfl rfl) rfl fun hS => sM hS rfl fun hS => z4 2 false 16 (b := (!Yp)) (r := (decide (X4 < (0 : Int)))) hS rfl rfl rfl rfl rfl rfl rfl (fun hb a w hS K hK => ?_) rfl fun a w hS => ?_
 ·refine qA hS rfl rfl rfl hb (mv rfl) rfl fun a w hS => ?_
  refine qA hS rfl rfl rfl hb (xp rfl rfl rfl) rfl fun a w hS => ?_
  exact q6 (hK _ _ (hS.up 2 rfl rfl))
 refine qq <| qF hS rfl hM (fun Yh hM => ?_) (fun Yh hM => ?_)
 ·refine wp_seq ?_
  refine zC <| sA hS rfl fun hS => sA hS rfl fun hS => qq <| wp_ret <| qj ?_
  exact qP (rs := [8, 9]) hS rfl rfl (hret (0 : Int) (1 : Int) _ (qG hM) (hS.st.pick [] (by kernel_rfl)))
 ·refine wp_skip ?_
  refine qd <| wp_seq <| qh <| sM hS rfl fun hS => sM hS rfl fun hS => sO hS (xd rfl Tryd.runUnderlying9) rfl fun hS => sB hS rfl fun hS => sM hS rfl fun hS => z4 6 false 24 (b := (decide (X4 > (X6.length : Int)))) (r := (decide (X3 > (qD ((X6.length : Int) - X4))))) hS rfl rfl rfl rfl rfl rfl rfl (fun hb a w hS K hK => ?_) rfl fun a w hS => ?_
  ·refine qA hS rfl rfl rfl hb (mv rfl) rfl fun a w hS => ?_
   refine qA hS rfl rfl rfl hb (mv rfl) rfl fun a w hS => qA hS rfl rfl rfl hb (xd rfl Tryd.runUnderlying9) rfl fun a w hS => qA hS rfl rfl rfl hb (mv rfl) rfl fun a w hS => qA hS rfl rfl rfl hb (xp rfl rfl rfl) rfl fun a w hS => qA hS rfl rfl rfl hb (xp rfl rfl rfl) rfl fun a w hS => ?_
   exact q6 (hK _ _ (hS.up 6 rfl rfl))
  refine qq <| qF hS rfl hM (fun Yi hM => ?_) (fun Yi hM => ?_)
  ·refine wp_seq ?_
   refine zC <| sA hS rfl fun hS => sA hS rfl fun hS => qq <| wp_ret <| qj ?_
   exact qP (rs := [8, 9]) hS rfl rfl (hret (0 : Int) (2 : Int) _ (qG hM) (hS.st.pick [] (by kernel_rfl)))
  ·refine wp_skip ?_
   refine qd <| qh <| sA hS rfl fun hS => qq <| wp_seq <| qh <| sA hS rfl fun hS => qq <| ya <| zD (fun Yb a w => ∃ (X7 : Int) (X8 : Int), Ss 57 [] [(0, qi X6), (1, .int .i64 X4), (2, .int .i64 X3), (3, .bool X5), (10, .int .u64 X7), (11, .int .i64 X8)] H [] F a w ∧ (qw.l1 K X6 X4 X3 X5 Yb X7 X8).wp kr kp) K ?_ ?_ ?_
   ·exact ⟨(0 : Int), (0 : Int), hS.to [] (by kernel_rfl) ⟨rfl, rfl, rfl, rfl, rfl, rfl, trivial⟩, hM⟩
   ·intro a w hI; obtain ⟨_, _, _, hM⟩ := hI; exact zx hM
   ·intro Yb a w hI Yr Yg
    obtain ⟨X7, X8, hS, hM⟩ := hI
    rw [qw.l1] at hM
    refine wp_seq <| qh <| sM hS rfl fun hS => sM hS rfl fun hS => sB hS rfl fun hS => qq <| qF hS rfl hM (fun Yj hM => ?_) (fun Yj hM => ?_)
    ·refine wp_skip ?_
     refine qd <| wp_seq <| ya <| qh <| sM hS rfl fun hS => sM hS rfl fun hS => sM hS rfl fun hS => sB hS rfl fun hS => sB hS rfl fun hS => sM hS rfl fun hS => sB hS rfl fun hS => ?_
     obtain ⟨Yl, hM⟩ := qM hM
     refine sO hS (uH rfl rfl Tryd.runUnderlying9 Yl) rfl fun hS => zk (v := Value.int .u8) (x0 := ((rd X6 (qD ((qD ((qD (X4 + X3)) - (1 : Int))) - X8))).toNat : Int)) hS (z1 rfl) rfl fun Ye a w hz hS => ?_
     have hM := qO hz hM; clear hz
     refine qq <| zj (fun a w => ∃ (X9 : Int), Ss 57 [] [(0, qi X6), (1, .int .i64 X4), (2, .int .i64 X3), (3, .bool X5), (10, .int .u64 X7), (11, .int .i64 X8), (12, .int .u8 X9)] H [] F a w ∧ (qw.j2 K (qw.l1 K X6 X4 X3 X5 Yb) X7 X8 X9).wp kr kp) (fun Yq Ya => ?_) ?_
     ·refine wp_seq ?_
      refine zC <| sM hS rfl fun hS => qq <| qF hS rfl hM (fun Yk hM => ?_) (fun Yk hM => ?_)
      ·refine zC ?_
       refine sM hS rfl fun hS => sM hS rfl fun hS => sM hS rfl fun hS => sB hS rfl fun hS => ?_
       obtain ⟨Ym, hM⟩ := qM hM
       refine sO hS (uH rfl rfl Tryd.runUnderlying9 Ym) rfl fun hS => zk (v := Value.int .u8) (x0 := ((rd X6 (qD (X4 + X8))).toNat : Int)) hS (z1 rfl) rfl fun Yf a w hz hS => ?_
       have hM := qO hz hM; clear hz
       refine q6 <| qd ?_
       exact Ya _ _ ⟨Yf, hS.to [] (by kernel_rfl) ⟨rfl, rfl, rfl, rfl, rfl, rfl, rfl, trivial⟩, hM⟩
      ·refine wp_skip ?_
       refine qd ?_
       exact Ya _ _ ⟨Ye, hS.to [] (by kernel_rfl) ⟨rfl, rfl, rfl, rfl, rfl, rfl, rfl, trivial⟩, hM⟩
     ·intro a w hI
      obtain ⟨X9, hS, hM⟩ := hI
      rw [qw.j2] at hM
      refine zC <| sM hS rfl fun hS => sB hS rfl fun hS => sM hS rfl fun hS => sO hS (yB rfl Tryd.runUnderlying5 Tryd.runUnderlying55) rfl fun hS => sB hS rfl fun hS => zk (v := Value.int .u64) (x0 := (wr .u64 ((wr .u64 (X7 * (256 : Int))) + (wr .u64 X9)))) hS (z1 rfl) rfl fun Yn a w hz hS => ?_
      have hM := qO hz hM; clear hz
      refine q6 <| z9 (qd ?_)
      refine zC <| sM hS rfl fun hS => sB hS rfl fun hS => zk (v := Value.int .i64) (x0 := (qD (X8 + (1 : Int)))) hS (z1 rfl) rfl fun Yo a w hz hS => ?_
      have hM := qO hz hM; clear hz
      refine q6 <| qd ?_
      exact Yg _ _ ⟨Yn, Yo, hS.to [] (by kernel_rfl) ⟨rfl, rfl, rfl, rfl, rfl, rfl, trivial⟩, hM⟩
    ·refine wp_exit ?_
     refine qV (qV (zn (qd ?_)))
     refine qh <| sM hS rfl fun hS => sA hS rfl fun hS => sA hS rfl fun hS => qq <| wp_ret ?_
     exact qP (rs := [8, 9]) hS rfl rfl (hret X7 (0 : Int) _ (qG hM) (hS.st.pick [] (by kernel_rfl)))
theorem zy {H : zv} {F : List qk} {w : World} {R : Ending → World → Prop} {kr : Int → Prop} {kp : Value → Prop} (hG : Gl H) (K : Nat) (X5 : List UInt8) (X4 : Int) (X3 : Int)
    (hS : St w H [] F) (hm : (za.m K X5 X4 X3).wp kr kp)
    (hret : ∀ (X6 : Int) (w : World), kr X6 → St w H [] F → R (.returned (.int .i64 X6)) w) :
    Calls Tryd.prog 33 ⟨[qi X5, .int .i64 X4, .int .i64 X3]⟩ w R := by
 refine enter Tryd.func33 rfl Tryd.ntmps33 rfl hS fun a w hS => ?_
 have hM := hm; clear hm
 rw [za.m] at hM
 refine qh <| sA hS rfl fun hS => qq <| qh <| sM hS rfl fun hS => sM hS rfl fun hS => sM hS rfl fun hS => qn hS rfl Tryd.call55 (yS hG K X5 X4 X3 true (hS.st.part 0 [] (by kernel_rfl)) (qg hM) (fun X8 X9 w hM  hst => ql hS.ev hst.appF rfl fun hS => ?_))
 replace hS : Ss _ _ _ H [] F _ _ := hS
 refine sM hS rfl fun hS => sO hS (ex rfl rfl) rfl fun hS => sO hS (ex rfl rfl) rfl fun hS => sA hS rfl fun hS => sA hS rfl fun hS => qq <| qh <| sM hS rfl fun hS => sO hS (yB rfl Tryd.runUnderlying55 Tryd.runUnderlying3) rfl fun hS => zk (v := Value.int .i64) (x0 := (wr .i64 X8)) hS (z1 rfl) rfl fun X7 a w hz hS => ?_
 have hM := qO hz hM; clear hz
 refine qq <| wp_ret ?_
 exact qP (rs := [6]) hS rfl rfl (hret X7 _ (qG hM) (hS.st.pick [] (by kernel_rfl)))
theorem yU {H : zv} {F : List qk} {w : World} {R : Ending → World → Prop} {kr : Bool → Prop} {kp : Value → Prop} (hG : Gl H) (K : Nat) (X3 : Int)
    (hS : St w H [] F) (hm : (z6.m K X3).wp kr kp)
    (hret : ∀ (X4 : Bool) (w : World), kr X4 → St w H [] F → R (.returned (.bool X4)) w) :
    Calls Tryd.prog 18 ⟨[.int .u32 X3]⟩ w R := by
 refine enter Tryd.func18 rfl Tryd.ntmps18 rfl hS fun a w hS => ?_
 have hM := hm; clear hm
 rw [z6.m] at hM
 refine qh <| sA hS rfl fun hS => qq <| qh <| sM hS rfl fun hS => sB hS rfl fun hS => sM hS rfl fun hS => z4 2 false 5 (b := (X3 == (65536 : Int))) (r := (X3 == (1330926671 : Int))) hS rfl rfl rfl rfl rfl rfl rfl (fun hb a w hS K hK => ?_) rfl fun a w hS => ?_
 ·refine qA hS rfl rfl rfl hb (mv rfl) rfl fun a w hS => ?_
  refine qA hS rfl rfl rfl hb (xp rfl rfl rfl) rfl fun a w hS => ?_
  exact q6 (hK _ _ (hS.up 2 rfl rfl))
 refine zk (v := Value.bool) (x0 := ((X3 == (65536 : Int)) || (X3 == (1330926671 : Int)))) hS (z1 rfl) rfl fun X5 a w hz hS => ?_
 have hM := qO hz hM; clear hz
 refine qq <| wp_ret ?_
 exact qP (rs := [2]) hS rfl rfl (hret X5 _ (qG hM) (hS.st.pick [] (by kernel_rfl)))
theorem xM {H : zv} {F : List qk} {w : World} {R : Ending → World → Prop} {kr : ((List UInt8) × Int) → Prop} {kp : Value → Prop} (hG : Gl H) (K : Nat) (Ye : Int) (X3 : Int) (X6 : Bool)
    (hS : St w H [] F) (hm : (qm.m K Ye X3 X6).wp kr kp)
    (hret : ∀ (Yn : List UInt8) (Yo : Int) (w : World), kr (Yn, Yo) → St w H [] F → R (.returned (.tuple ⟨[qi Yn, .int .i64 Yo]⟩)) w) :
    Calls Tryd.prog 63 ⟨[.int .u64 Ye, .int .i64 X3, .bool X6]⟩ w R := by
 refine enter Tryd.func63 rfl Tryd.ntmps63 rfl hS fun a w hS => ?_
 have hM := hm; clear hm
 rw [qm.m] at hM
 refine qh <| sA hS rfl fun hS => sA hS rfl fun hS => qq <| wp_seq <| qh <| sM hS rfl fun hS => qn hS rfl Tryd.call77 (xN hG K X3 (hS.st.part 0 [] (by kernel_rfl)) (qg hM) (fun YI w hM  hst => ql hS.ev hst.appF rfl fun hS => ?_))
 replace hS : Ss _ _ _ H [] F _ _ := hS
 refine sO hS (un rfl rfl) rfl fun hS => qq <| qF hS rfl hM (fun Yu hM => ?_) (fun Yu hM => ?_)
 ·refine wp_seq ?_
  refine zC <| sA hS rfl fun hS => sA hS rfl fun hS => qq <| wp_ret <| qj ?_
  exact qP (rs := [6, 7]) hS rfl rfl (hret ([] : List UInt8) (1 : Int) _ (qG hM) (hS.st.pick [] (by kernel_rfl)))
 ·refine wp_skip ?_
  refine qd <| qh <| sM hS rfl fun hS => ?_
  obtain ⟨Yy, hM⟩ := qM hM
  refine XF (g := (ci .u8)) (m := X3) (0 : Int) hS rfl rfl (by simp) Tryd.runUnderlying39 X.el5 (fun w => ⟨_, Tryd.zeroValue5 w, rfl⟩) (fun _ => rfl) rfl rfl Yy rfl fun YA w X7 X8 YB hz Yr hS => ?_
  have hM := qO hz hM; clear hz
  refine sA hS rfl fun hS => qq <| zj (fun a w => ∃ (Yf : Int) (Yb : (List Int)) (Yh : qk), Ss 39 [] [(0, .int .u64 Yf), (8, .slice X7 Yb.length X8)] H [Yh] F a w ∧ (zX 5 (ci .u8) 1 X7 Yb X8 Yh) ∧ (qm.j3 K Yf Yb).wp kr kp) (fun YH Yq => ?_) ?_
  ·refine wp_seq ?_
   refine zC <| sA hS rfl fun hS => qq <| ya <| zD (fun Yl a w => ∃ (X5 : Int) (X4 : (List Int)) (Yc : qk) (X9 : Int), Ss 39 [] [(0, .int .u64 X5), (1, .int .i64 X3), (2, .bool X6), (8, .slice X7 X4.length X8), (9, .int .i64 X9)] H [Yc] F a w ∧ (zX 5 (ci .u8) 1 X7 X4 X8 Yc) ∧ (qm.l1 K X3 X6 Yl X5 X4 X9).wp kr kp) K ?_ ?_ ?_
   ·exact ⟨Ye, YA, YB, (0 : Int), hS.to [0] (by kernel_rfl) ⟨rfl, rfl, rfl, rfl, rfl, trivial⟩, Yr, hM⟩
   ·intro a w hI; obtain ⟨_, _, _, _, _, _, hM⟩ := hI; exact zx hM
   ·intro Yl a w hI YG Yp
    obtain ⟨X5, X4, Yc, X9, hS, Yd, hM⟩ := hI
    rw [qm.l1] at hM
    refine wp_seq <| qh <| sM hS rfl fun hS => sM hS rfl fun hS => sB hS rfl fun hS => qq <| qF hS rfl hM (fun Yv hM => ?_) (fun Yv hM => ?_)
    ·refine wp_skip ?_
     refine qd <| wp_seq <| ya <| qh <| sM hS rfl fun hS => sA hS rfl fun hS => qq <| zj (fun a w => ∃ (Ya : Int), Ss 39 [] [(0, .int .u64 X5), (1, .int .i64 X3), (2, .bool X6), (8, .slice X7 X4.length X8), (9, .int .i64 X9), (10, .int .i64 Ya)] H [Yc] F a w ∧ (qm.j2 K (qm.l1 K X3 X6 Yl) X5 X4 X9 Ya).wp kr kp) (fun YF Yi => ?_) ?_
     ·refine wp_seq ?_
      refine zC <| sM hS rfl fun hS => qq <| qF hS rfl hM (fun Yw hM => ?_) (fun Yw hM => ?_)
      ·refine zC ?_
       refine sM hS rfl fun hS => sB hS rfl fun hS => sM hS rfl fun hS => sB hS rfl fun hS => zk (v := Value.int .i64) (x0 := (qD ((qD (X3 - (1 : Int))) - X9))) hS (z1 rfl) rfl fun Ym a w hz hS => ?_
       have hM := qO hz hM; clear hz
       refine q6 <| qd ?_
       exact Yi _ _ ⟨Ym, hS.to [0] (by kernel_rfl) ⟨rfl, rfl, rfl, rfl, rfl, rfl, trivial⟩, hM⟩
      ·refine wp_skip ?_
       refine qd ?_
       exact Yi _ _ ⟨X9, hS.to [0] (by kernel_rfl) ⟨rfl, rfl, rfl, rfl, rfl, rfl, trivial⟩, hM⟩
     ·intro a w hI
      obtain ⟨Ya, hS, hM⟩ := hI
      rw [qm.j2] at hM
      refine qh <| sM hS rfl fun hS => sM hS rfl fun hS => sM hS rfl fun hS => sO hS (rem rfl rfl rfl) rfl fun hS => sO hS (yB rfl Tryd.runUnderlying55 Tryd.runUnderlying5) rfl fun hS => ?_
      obtain ⟨Yj, hM⟩ := qM hM
      refine sO hS (v7 rfl rfl Tryd.runUnderlying39 Tryd.sizeOf5 (Yd.rd (i := 0) rfl) (fun _ => rfl) rfl Yj) rfl fun hS => XI (i := Ya) (sz := 1) 0 0 ((wr .u8 (jg X5 (256 : Int)))) hS rfl rfl Yd rfl Tryd.sizeOf5 (QZ (wr .u8 (jg X5 (256 : Int)))) (fun _ => rfl) Yj rfl rfl fun Yg w YC hz Yk Ys hS => ?_
      have hM := qO hz hM; clear hz
      replace hS := hS.re 8 (u := .slice X7 X4.length X8) (v := .slice X7 Yg.length X8) rfl (by rw [Yk])
      replace hS := hS.re 27 (u := .slice X7 X4.length X8) (v := .slice X7 Yg.length X8) rfl (by rw [Yk])
      refine qq <| zC <| sM hS rfl fun hS => sO hS (quo rfl rfl rfl) rfl fun hS => zk (v := Value.int .u64) (x0 := (jf .u64 X5 (256 : Int))) hS (z1 rfl) rfl fun Yz a w hz hS => ?_
      have hM := qO hz hM; clear hz
      refine q6 <| z9 (qd ?_)
      refine zC <| sM hS rfl fun hS => sB hS rfl fun hS => zk (v := Value.int .i64) (x0 := (qD (X9 + (1 : Int)))) hS (z1 rfl) rfl fun YD a w hz hS => ?_
      have hM := qO hz hM; clear hz
      refine q6 <| qd ?_
      exact Yp _ _ ⟨Yz, Yg, YC, YD, hS.to [0] (by kernel_rfl) ⟨rfl, rfl, rfl, rfl, rfl, trivial⟩, Ys, hM⟩
    ·refine wp_exit ?_
     refine qV (qV (zn (qd ?_)))
     exact Yq _ _ ⟨X5, X4, Yc, hS.to [0] (by kernel_rfl) ⟨rfl, rfl, trivial⟩, Yd, hM⟩
  ·intro a w hI
   obtain ⟨Yf, Yb, Yh, hS, Yt, hM⟩ := hI
   rw [qm.j3] at hM
   refine wp_seq <| qh <| sM hS rfl fun hS => sB hS rfl fun hS => qq <| qF hS rfl hM (fun Yx hM => ?_) (fun Yx hM => ?_)
   ·refine wp_seq ?_
    refine zC <| sA hS rfl fun hS => sA hS rfl fun hS => qq <| wp_ret <| qj ?_
    exact qP (rs := [6, 7]) hS rfl rfl (hret ([] : List UInt8) (10 : Int) _ (qG hM) (hS.st.pick [] (by kernel_rfl)))
   ·refine wp_skip ?_
    refine qd <| qh <| sM hS rfl fun hS => sO hS (XC rfl Tryd.runUnderlying39 Tryd.runUnderlying5 Tryd.runUnderlying9 (Yt.rd (i := 0) rfl)) rfl fun hS => zk (v := qi) (x0 := (Yb.map vf)) hS (z1 rfl) rfl fun YE a w hz hS => ?_
    have hM := qO hz hM; clear hz
    refine sA hS rfl fun hS => qq <| wp_ret ?_
    exact qP (rs := [6, 7]) hS rfl rfl (hret YE (0 : Int) _ (qG hM) (hS.st.pick [] (by kernel_rfl)))
theorem jy {H : zv} {F : List qk} {w : World} {R : Ending → World → Prop} {kr : (List UInt8) → Prop} {kp : Value → Prop} (hG : Gl H) (K : Nat) (X3 : Int)
    (hS : St w H [] F) (hm : (xa.m K X3).wp kr kp)
    (hret : ∀ (X4 : List UInt8) (w : World), kr X4 → St w H [] F → R (.returned (qi X4)) w) :
    Calls Tryd.prog 44 ⟨[.int .i64 X3]⟩ w R := by
 refine enter Tryd.func44 rfl Tryd.ntmps44 rfl hS fun a w hS => ?_
 have hM := hm; clear hm
 rw [xa.m] at hM
 refine qh <| sA hS rfl fun hS => qq <| qh <| sM hS rfl fun hS => sO hS (yB rfl Tryd.runUnderlying3 Tryd.runUnderlying55) rfl fun hS => qn hS rfl Tryd.call63 (xM hG K (wr .u64 X3) (4 : Int) true (hS.st.part 0 [] (by kernel_rfl)) (qg hM) (fun X5 X6 w hM  hst => ql hS.ev hst.appF rfl fun hS => ?_))
 replace hS : Ss _ _ _ H [] F _ _ := hS
 refine sM hS rfl fun hS => sO hS (ex rfl rfl) rfl fun hS => sO hS (ex rfl rfl) rfl fun hS => sA hS rfl fun hS => sA hS rfl fun hS => qq <| qh <| sM hS rfl fun hS => sA hS rfl fun hS => qq <| wp_ret ?_
 exact qP (rs := [2]) hS rfl rfl (hret X5 _ (qG hM) (hS.st.pick [] (by kernel_rfl)))
theorem xe {H : zv} {F : List qk} {w : World} {R : Ending → World → Prop} {kr : (List UInt8) → Prop} {kp : Value → Prop} (hG : Gl H) (K : Nat) (X3 : Int)
    (hS : St w H [] F) (hm : (zE.m K X3).wp kr kp)
    (hret : ∀ (X4 : List UInt8) (w : World), kr X4 → St w H [] F → R (.returned (qi X4)) w) :
    Calls Tryd.prog 45 ⟨[.int .i64 X3]⟩ w R := by
 refine enter Tryd.func45 rfl Tryd.ntmps45 rfl hS fun a w hS => ?_
 have hM := hm; clear hm
 rw [zE.m] at hM
 refine qh <| sA hS rfl fun hS => qq <| qh <| sM hS rfl fun hS => sO hS (yB rfl Tryd.runUnderlying3 Tryd.runUnderlying55) rfl fun hS => qn hS rfl Tryd.call63 (xM hG K (wr .u64 X3) (2 : Int) true (hS.st.part 0 [] (by kernel_rfl)) (qg hM) (fun X5 X6 w hM  hst => ql hS.ev hst.appF rfl fun hS => ?_))
 replace hS : Ss _ _ _ H [] F _ _ := hS
 refine sM hS rfl fun hS => sO hS (ex rfl rfl) rfl fun hS => sO hS (ex rfl rfl) rfl fun hS => sA hS rfl fun hS => sA hS rfl fun hS => qq <| qh <| sM hS rfl fun hS => sA hS rfl fun hS => qq <| wp_ret ?_
 exact qP (rs := [2]) hS rfl rfl (hret X5 _ (qG hM) (hS.st.pick [] (by kernel_rfl)))
theorem yT {H : zv} {F : List qk} {w : World} {R : Ending → World → Prop} {kr : (List UInt8) → Prop} {kp : Value → Prop} (hG : Gl H) (K : Nat) (X3 : Int) (X4 : Int)
    (hS : St w H [] F) (hm : (qQ.m K X3 X4).wp kr kp)
    (hret : ∀ (Ya : List UInt8) (w : World), kr Ya → St w H [] F → R (.returned (qi Ya)) w) :
    Calls Tryd.prog 21 ⟨[.int .u32 X3, .int .i64 X4]⟩ w R := by
 refine enter Tryd.func21 rfl Tryd.ntmps21 rfl hS fun a w hS => ?_
 have hM := hm; clear hm
 rw [qQ.m] at hM
 refine qh <| sA hS rfl fun hS => qq <| qh <| sA hS rfl fun hS => qq <| qh <| sA hS rfl fun hS => qq <| zj (fun a w => ∃ (X8 : Int) (X6 : Int), Ss 34 [] [(0, .int .u32 X3), (1, .int .i64 X4), (5, .int .i64 X8), (6, .int .i64 X6)] H [] F a w ∧ (qQ.j2 K X3 X4 X8 X6).wp kr kp) (fun Yr Yd => ?_) ?_
 ·refine ya ?_
  refine zD (fun X9 a w => ∃ (X7 : Int) (X5 : Int), Ss 34 [] [(0, .int .u32 X3), (1, .int .i64 X4), (5, .int .i64 X7), (6, .int .i64 X5)] H [] F a w ∧ (qQ.l1 K X3 X4 X9 X7 X5).wp kr kp) K ?_ ?_ ?_
  ·exact ⟨(1 : Int), (0 : Int), hS.to [] (by kernel_rfl) ⟨rfl, rfl, rfl, rfl, trivial⟩, hM⟩
  ·intro a w hI; obtain ⟨_, _, _, hM⟩ := hI; exact zx hM
  ·intro X9 a w hI Yq Yc
   obtain ⟨X7, X5, hS, hM⟩ := hI
   rw [qQ.l1] at hM
   refine wp_seq <| qh <| sM hS rfl fun hS => sB hS rfl fun hS => sM hS rfl fun hS => sB hS rfl fun hS => qq <| qF hS rfl hM (fun Ye hM => ?_) (fun Ye hM => ?_)
   ·refine wp_skip ?_
    refine qd <| ya <| qh <| sM hS rfl fun hS => sB hS rfl fun hS => zk (v := Value.int .i64) (x0 := (qD ((2 : Int) * X7))) hS (z1 rfl) rfl fun Yj a w hz hS => ?_
    have hM := qO hz hM; clear hz
    refine qq <| zC <| sM hS rfl fun hS => sB hS rfl fun hS => zk (v := Value.int .i64) (x0 := (qD (X5 + (1 : Int)))) hS (z1 rfl) rfl fun Yb a w hz hS => ?_
    have hM := qO hz hM; clear hz
    refine q6 <| z9 (qd ?_)
    exact Yc _ _ ⟨Yj, Yb, hS.to [] (by kernel_rfl) ⟨rfl, rfl, rfl, rfl, trivial⟩, hM⟩
   ·refine wp_exit ?_
    refine qV (qV (zn (qd ?_)))
    exact Yd _ _ ⟨X7, X5, hS.to [] (by kernel_rfl) ⟨rfl, rfl, rfl, rfl, trivial⟩, hM⟩
 ·intro a w hI
  obtain ⟨X8, X6, hS, hM⟩ := hI
  rw [qQ.j2] at hM
  refine qh <| sM hS rfl fun hS => sO hS (yB rfl Tryd.runUnderlying23 Tryd.runUnderlying3) rfl fun hS => qn hS rfl Tryd.call44 (jy hG K (wr .i64 X3) (hS.st.part 0 [] (by kernel_rfl)) (qg hM) (fun Yl w hM  hst => ql hS.ev hst.appF rfl fun hS => ?_))
  replace hS : Ss _ _ _ H [] F _ _ := hS
  refine sM hS rfl fun hS => qn hS rfl Tryd.call45 (xe hG K X4 (hS.st.part 0 [] (by kernel_rfl)) (qg hM) (fun Ym w hM  hst => ql hS.ev hst.appF rfl fun hS => ?_))
  replace hS : Ss _ _ _ H [] F _ _ := hS
  obtain ⟨Yf, hM⟩ := qM hM
  refine sO hS (vS rfl rfl Yf) rfl fun hS => sM hS rfl fun hS => sB hS rfl fun hS => qn hS rfl Tryd.call45 (xe hG K (qD ((16 : Int) * X8)) (hS.st.part 0 [] (by kernel_rfl)) (qg hM) (fun Yn w hM  hst => ql hS.ev hst.appF rfl fun hS => ?_))
  replace hS : Ss _ _ _ H [] F _ _ := hS
  obtain ⟨Yg, hM⟩ := qM hM
  refine sO hS (vS rfl rfl Yg) rfl fun hS => sM hS rfl fun hS => qn hS rfl Tryd.call45 (xe hG K X6 (hS.st.part 0 [] (by kernel_rfl)) (qg hM) (fun Yo w hM  hst => ql hS.ev hst.appF rfl fun hS => ?_))
  replace hS : Ss _ _ _ H [] F _ _ := hS
  obtain ⟨Yh, hM⟩ := qM hM
  refine sO hS (vS rfl rfl Yh) rfl fun hS => sM hS rfl fun hS => sM hS rfl fun hS => sB hS rfl fun hS => sB hS rfl fun hS => qn hS rfl Tryd.call45 (xe hG K (qD ((16 : Int) * (qD (X4 - X8)))) (hS.st.part 0 [] (by kernel_rfl)) (qg hM) (fun Yp w hM  hst => ql hS.ev hst.appF rfl fun hS => ?_))
  replace hS : Ss _ _ _ H [] F _ _ := hS
  obtain ⟨Yi, hM⟩ := qM hM
  refine sO hS (vS rfl rfl Yi) rfl fun hS => zk (v := qi) (x0 := ((((Yl ++ Ym) ++ Yn) ++ Yo) ++ Yp)) hS (z1 rfl) rfl fun Yk a w hz hS => ?_
  have hM := qO hz hM; clear hz
  refine qq <| wp_ret ?_
  exact qP (rs := [4]) hS rfl rfl (hret Yk _ (qG hM) (hS.st.pick [] (by kernel_rfl)))
theorem xT {H : zv} {F : List qk} {w : World} {R : Ending → World → Prop} {kr : Bool → Prop} {kp : Value → Prop} (hG : Gl H) (K : Nat) (X3 : Int) (X4 : Int)
    (hS : St w H [] F) (hm : (zF.m K X3 X4).wp kr kp)
    (hret : ∀ (X5 : Bool) (w : World), kr X5 → St w H [] F → R (.returned (.bool X5)) w) :
    Calls Tryd.prog 56 ⟨[.int .i64 X3, .int .i64 X4]⟩ w R := by
 refine enter Tryd.func56 rfl Tryd.ntmps56 rfl hS fun a w hS => ?_
 have hM := hm; clear hm
 rw [zF.m] at hM
 refine qh <| sA hS rfl fun hS => qq <| qh <| sM hS rfl fun hS => sB hS rfl fun hS => sM hS rfl fun hS => z4 3 true 7 (b := (decide (X3 ≥ (0 : Int)))) (r := (decide (X3 < X4))) hS rfl rfl rfl rfl rfl rfl rfl (fun hb a w hS K hK => ?_) rfl fun a w hS => ?_
 ·refine qA hS rfl rfl rfl hb (mv rfl) rfl fun a w hS => ?_
  refine qA hS rfl rfl rfl hb (mv rfl) rfl fun a w hS => qA hS rfl rfl rfl hb (xp rfl rfl rfl) rfl fun a w hS => ?_
  exact q6 (hK _ _ (hS.up 3 rfl rfl))
 refine sM hS rfl fun hS => z4 2 true 12 (b := ((decide (X3 ≥ (0 : Int))) && (decide (X3 < X4)))) (r := (decide (X4 ≤ (4611686018427387904 : Int)))) hS rfl rfl rfl rfl rfl rfl rfl (fun hb a w hS K hK => ?_) rfl fun a w hS => ?_
 ·refine qA hS rfl rfl rfl hb (mv rfl) rfl fun a w hS => ?_
  refine qA hS rfl rfl rfl hb (xp rfl rfl rfl) rfl fun a w hS => ?_
  exact q6 (hK _ _ (hS.up 2 rfl rfl))
 refine zk (v := Value.bool) (x0 := (((decide (X3 ≥ (0 : Int))) && (decide (X3 < X4))) && (decide (X4 ≤ (4611686018427387904 : Int))))) hS (z1 rfl) rfl fun X6 a w hz hS => ?_
 have hM := qO hz hM; clear hz
 refine qq <| wp_ret ?_
 exact qP (rs := [4]) hS rfl rfl (hret X6 _ (qG hM) (hS.st.pick [] (by kernel_rfl)))
theorem yd {H : zv} {F : List qk} {w : World} {R : Ending → World → Prop} {kr : Bool → Prop} {kp : Value → Prop} (hG : Gl H) (K : Nat) (X4 : q5) (X3 : Int) (X6 : Int) (Ye : Nat) (X8 : qk) (Yf : Option Addr) (Yh : Nat) (X9 : qk) (Yg : Option Addr) (Yi : Nat) (Ya : qk) (Yb : ye X8 Ye ([.slice Yf X4.L_.length Yh, .slice Yg X4.X_.length Yi]) 68) (X5 : zX 71 qe.cells 2 Yf X4.L_ Yh X9) (Ys : zX 3 (ci .i64) 1 Yg X4.X_ Yi Ya)
    (hS : St w H [X8, X9, Ya] F) (hm : (qR.m K X4 X3 X6).wp kr kp)
    (hret : ∀ (Yl : Bool) (w : World), kr Yl → St w H [X8, X9, Ya] F → R (.returned (.bool Yl)) w) :
    Calls Tryd.prog 57 ⟨[qE Ye 0, .int .i64 X3, .int .i64 X6]⟩ w R := by
 refine enter Tryd.func57 rfl Tryd.ntmps57 rfl hS fun a w hS => ?_
 have hM := hm; clear hm
 rw [qR.m] at hM
 refine qh <| sA hS rfl fun hS => qq <| wp_seq <| qh <| sA hS rfl fun hS => qq <| ya <| zD (fun Yj a w => ∃ (X7 : Int), Ss 44 [] [(0, qE Ye 0), (1, .int .i64 X3), (2, .int .i64 X6), (7, .int .i64 X7)] H [X8, X9, Ya] F a w ∧ (qR.l1 K X4 X3 X6 Yj X7).wp kr kp) K ?_ ?_ ?_
 ·exact ⟨(0 : Int), hS.to [0, 1, 2] (by kernel_rfl) ⟨rfl, rfl, rfl, rfl, trivial⟩, hM⟩
 ·intro a w hI; obtain ⟨_, _, hM⟩ := hI; exact zx hM
 ·intro Yj a w hI Yt Ym
  obtain ⟨X7, hS, hM⟩ := hI
  rw [qR.l1] at hM
  refine wp_seq <| qh <| sM hS rfl fun hS => sM hS rfl fun hS => sO hS (yx rfl) rfl fun hS => sO hS (z2 rfl Tryd.runUnderlying68 rfl Tryd.sizeOf65 rfl) rfl fun hS => sO hS (xh 0 rfl Yb rfl rfl Tryd.isAgg65) rfl fun hS => sO hS (yb rfl Tryd.runUnderlying65) rfl fun hS => sB hS rfl fun hS => qq <| qF hS rfl hM (fun Yn hM => ?_) (fun Yn hM => ?_)
  ·refine wp_skip ?_
   refine qd <| wp_seq <| ya <| qh <| sM hS rfl fun hS => sM hS rfl fun hS => qn hS rfl Tryd.call56 (xT hG K X3 X6 (hS.st.part 0 [0, 1, 2] (by kernel_rfl)) (qg hM) (fun Yk w hM  hst => ql hS.ev hst.appF rfl fun hS => ?_))
   replace hS : Ss _ _ _ H [X8, X9, Ya] F _ _ := hS
   refine sM hS rfl fun hS => ?_
   obtain ⟨Yp, hM⟩ := qM hM
   refine z4 10 true 20 (b := Yk) (r := (decide (X3 < (rd X4.L_ X7).Hi_))) hS rfl rfl rfl rfl rfl rfl rfl (fun hb a w hS K hK => ?_) rfl fun a w hS => ?_
   ·refine qA hS rfl rfl rfl hb (mv rfl) rfl fun a w hS => ?_
    refine qA hS rfl rfl rfl hb (mv rfl) rfl fun a w hS => qA hS rfl rfl rfl hb (yx rfl) rfl fun a w hS => qA hS rfl rfl rfl hb (z2 rfl Tryd.runUnderlying68 rfl Tryd.sizeOf65 rfl) rfl fun a w hS => qA hS rfl rfl rfl hb (xh 0 rfl Yb rfl rfl Tryd.isAgg65) rfl fun a w hS => qA hS rfl rfl rfl hb (mv rfl) rfl fun a w hS => ?_
    have Yc := jX Yp hb
    refine qA hS rfl rfl rfl hb (v7 rfl rfl Tryd.runUnderlying65 Tryd.sizeOf71 (X5.rd (i := 1) rfl) (fun _ => rfl) rfl Yc) rfl fun a w hS => qA hS rfl rfl rfl hb (vi (sz := 2) rfl (X5.rd (i := 1) rfl) (fun _ => rfl) rfl Yc Tryd.runUnderlying71 rfl Tryd.sizeOf3 rfl) rfl fun a w hS => qA hS rfl rfl rfl hb (Zy 1 rfl (X5.rd (i := 1) rfl) (fun _ => rfl) Yc rfl Tryd.isAgg3) rfl fun a w hS => qA hS rfl rfl rfl hb (xp rfl rfl rfl) rfl fun a w hS => ?_
    exact q6 (hK _ _ (hS.up 10 rfl rfl))
   refine sM hS rfl fun hS => ?_
   obtain ⟨Yq, hM⟩ := qM hM
   refine z4 10 true 32 (b := (Yk && (decide (X3 < (rd X4.L_ X7).Hi_)))) (r := (decide ((rd X4.L_ X7).Lo_ < X6))) hS rfl rfl rfl rfl rfl rfl rfl (fun hb a w hS K hK => ?_) rfl fun a w hS => ?_
   ·refine qA hS rfl rfl rfl hb (mv rfl) rfl fun a w hS => ?_
    refine qA hS rfl rfl rfl hb (yx rfl) rfl fun a w hS => qA hS rfl rfl rfl hb (z2 rfl Tryd.runUnderlying68 rfl Tryd.sizeOf65 rfl) rfl fun a w hS => qA hS rfl rfl rfl hb (xh 0 rfl Yb rfl rfl Tryd.isAgg65) rfl fun a w hS => qA hS rfl rfl rfl hb (mv rfl) rfl fun a w hS => ?_
    have Yd := jX Yq hb
    refine qA hS rfl rfl rfl hb (v7 rfl rfl Tryd.runUnderlying65 Tryd.sizeOf71 (X5.rd (i := 1) rfl) (fun _ => rfl) rfl Yd) rfl fun a w hS => qA hS rfl rfl rfl hb (vi (sz := 2) rfl (X5.rd (i := 1) rfl) (fun _ => rfl) rfl Yd Tryd.runUnderlying71 rfl Tryd.sizeOf3 rfl) rfl fun a w hS => qA hS rfl rfl rfl hb (Zy 0 rfl (X5.rd (i := 1) rfl) (fun _ => rfl) Yd rfl Tryd.isAgg3) rfl fun a w hS => qA hS rfl rfl rfl hb (mv rfl) rfl fun a w hS => qA hS rfl rfl rfl hb (xp rfl rfl rfl) rfl fun a w hS => ?_
    exact q6 (hK _ _ (hS.up 10 rfl rfl))
   refine qq <| qF hS rfl hM (fun Yo hM => ?_) (fun Yo hM => ?_)
   ·refine wp_seq ?_
    refine zC <| sA hS rfl fun hS => qq <| wp_ret <| zl (qj (qj (zl (qj ?_))))
    exact qP (rs := [6]) hS rfl rfl (hret true _ (qG hM) (hS.st.pick [0, 1, 2] (by kernel_rfl)))
   ·refine wp_skip ?_
    refine z9 (qd ?_)
    refine zC <| sM hS rfl fun hS => sB hS rfl fun hS => zk (v := Value.int .i64) (x0 := (qD (X7 + (1 : Int)))) hS (z1 rfl) rfl fun Yr a w hz hS => ?_
    have hM := qO hz hM; clear hz
    refine q6 <| qd ?_
    exact Ym _ _ ⟨Yr, hS.to [0, 1, 2] (by kernel_rfl) ⟨rfl, rfl, rfl, rfl, trivial⟩, hM⟩
  ·refine wp_exit ?_
   refine qV (qV (zn (qd ?_)))
   refine qh <| sA hS rfl fun hS => qq <| wp_ret ?_
   exact qP (rs := [6]) hS rfl rfl (hret false _ (qG hM) (hS.st.pick [0, 1, 2] (by kernel_rfl)))
theorem xz {H : zv} {F : List qk} {w : World} {R : Ending → World → Prop} {kr : (Int × (List qe) × (List Int)) → Prop} {kp : Value → Prop} (hG : Gl H) (K : Nat) (X5 : q5) (X3 : Int) (X4 : Int) (X7 : Int) (Yi : Nat) (X8 : qk) (Yu : Option Addr) (Yy : Nat) (X9 : qk) (Yn : Option Addr) (Yp : Nat) (Ya : qk) (Yb : ye X8 Yi ([.slice Yu X5.L_.length Yy, .slice Yn X5.X_.length Yp]) 68) (Yc : zX 71 qe.cells 2 Yu X5.L_ Yy X9) (Yk : zX 3 (ci .i64) 1 Yn X5.X_ Yp Ya)
    (hS : St w H [X8, X9, Ya] F) (hm : (qf.m K X5 X3 X4 X7).wp kr kp)
    (hret : ∀ (Jb : Int) (Y4 : Option Addr) (Y6 : Nat) (YH : (List qe)) (Y8 : qk) (Y5 : Option Addr) (Y7 : Nat) (Y3 : (List Int)) (Y9 : qk) (Ja : qk) (w : World), kr (Jb, YH, Y3) → (zX 71 qe.cells 2 Y4 YH Y6 Y8) → (zX 3 (ci .i64) 1 Y5 Y3 Y7 Y9) → (ye Ja Yi ([.slice Y4 YH.length Y6, .slice Y5 Y3.length Y7]) 68) → St w H [Ja, Y8, Y9] F → R (.returned (.int .i64 Jb)) w) :
    Calls Tryd.prog 34 ⟨[qE Yi 0, .int .i64 X3, .int .i64 X4, .int .i64 X7]⟩ w R := by
 refine enter Tryd.func34 rfl Tryd.ntmps34 rfl hS fun a w hS => ?_
 have hM := hm; clear hm
 rw [qf.m] at hM
 refine qh <| sA hS rfl fun hS => qq <| wp_seq <| qh <| sM hS rfl fun hS => sM hS rfl fun hS => qn hS rfl Tryd.call56 (xT hG K X3 X4 (hS.st.part 0 [0, 1, 2] (by kernel_rfl)) (qg hM) (fun VA w hM  hst => ql hS.ev hst.appF rfl fun hS => ?_))
 replace hS : Ss _ _ _ H [X8, X9, Ya] F _ _ := hS
 refine sO hS (un rfl rfl) rfl fun hS => qq <| qF hS rfl hM (fun Jy hM => ?_) (fun Jy hM => ?_)
 ·refine wp_seq ?_
  refine zC <| sA hS rfl fun hS => qq <| wp_ret <| qj ?_
  exact qP (rs := [8]) hS rfl rfl (hret (1 : Int) Yu Yy X5.L_ X9 Yn Yp X5.X_ Ya X8 _ (qG hM) Yc Yk Yb (hS.st.pick [0, 1, 2] (by kernel_rfl)))
 ·refine wp_skip ?_
  refine qd <| wp_seq <| qh <| sM hS rfl fun hS => sM hS rfl fun hS => sM hS rfl fun hS => qn hS rfl Tryd.call57 (yd hG K X5 X3 X4 Yi X8 Yu Yy X9 Yn Yp Ya Yb Yc Yk (hS.st.part 3 [0, 1, 2] (by kernel_rfl)) (qg hM) (fun VB w hM  hst => ql hS.ev hst.appF rfl fun hS => ?_))
  replace hS : Ss _ _ _ H [X8, X9, Ya] F _ _ := hS
  refine qq <| qF hS rfl hM (fun Jz hM => ?_) (fun Jz hM => ?_)
  ·refine wp_seq ?_
   refine zC <| sA hS rfl fun hS => qq <| wp_ret <| qj ?_
   exact qP (rs := [8]) hS rfl rfl (hret (5 : Int) Yu Yy X5.L_ X9 Yn Yp X5.X_ Ya X8 _ (qG hM) Yc Yk Yb (hS.st.pick [0, 1, 2] (by kernel_rfl)))
  ·refine wp_skip ?_
   refine qd <| qh <| sA hS rfl fun hS => ?_
   obtain ⟨J3, Jg, hS⟩ := hS.nilV 71 qe.cells 2
   refine qq <| qh <| sA hS rfl fun hS => ?_
   obtain ⟨J4, Jh, hS⟩ := hS.nilV 3 (ci .i64) 1
   refine qq <| qh <| sA hS rfl fun hS => qq <| zj (fun a w => ∃ (YI : Option Addr) (YK : Nat) (Yl : (List qe)) (YM : qk) (YJ : Option Addr) (YL : Nat) (Ym : (List Int)) (YN : qk) (Yt : Bool), Ss 94 [] [(0, qE Yi 0), (1, .int .i64 X3), (2, .int .i64 X4), (3, .int .i64 X7), (9, .slice YI Yl.length YK), (10, .slice YJ Ym.length YL), (11, .bool Yt)] H [X8, X9, Ya, YM, YN] F a w ∧ (zX 71 qe.cells 2 YI Yl YK YM) ∧ (zX 3 (ci .i64) 1 YJ Ym YL YN) ∧ (qf.j3 K X3 X4 X7 Yl Ym Yt).wp kr kp) (fun Vl Jf => ?_) ?_
   ·refine wp_seq ?_
    refine zC <| sA hS rfl fun hS => qq <| ya <| zD (fun Y2 a w => ∃ (Yv : Option Addr) (Yz : Nat) (Yf : (List qe)) (YC : qk) (Yw : Option Addr) (YA : Nat) (Yg : (List Int)) (YD : qk) (Yd : Bool) (X6 : Int), Ss 94 [] [(0, qE Yi 0), (1, .int .i64 X3), (2, .int .i64 X4), (3, .int .i64 X7), (9, .slice Yv Yf.length Yz), (10, .slice Yw Yg.length YA), (11, .bool Yd), (12, .int .i64 X6)] H [X8, X9, Ya, YC, YD] F a w ∧ (zX 71 qe.cells 2 Yv Yf Yz YC) ∧ (zX 3 (ci .i64) 1 Yw Yg YA YD) ∧ (qf.l1 K X5 X3 X4 X7 Y2 Yf Yg Yd X6).wp kr kp) K ?_ ?_ ?_
    ·exact ⟨none, 0, ([] : List qe), J3, none, 0, ([] : List Int), J4, false, (0 : Int), hS.to [2, 3, 4, 1, 0] (by kernel_rfl) ⟨rfl, rfl, rfl, rfl, rfl, rfl, rfl, rfl, trivial⟩, Jg, Jh, hM⟩
    ·intro a w hI; obtain ⟨_, _, _, _, _, _, _, _, _, _, _, _, _, hM⟩ := hI; exact zx hM
    ·intro Y2 a w hI Vk Je
     obtain ⟨Yv, Yz, Yf, YC, Yw, YA, Yg, YD, Yd, X6, hS, YE, YF, hM⟩ := hI
     rw [qf.l1] at hM
     refine wp_seq <| qh <| sM hS rfl fun hS => sM hS rfl fun hS => sO hS (yx rfl) rfl fun hS => sO hS (z2 rfl Tryd.runUnderlying68 rfl Tryd.sizeOf65 rfl) rfl fun hS => sO hS (xh 0 rfl Yb rfl rfl Tryd.isAgg65) rfl fun hS => sO hS (yb rfl Tryd.runUnderlying65) rfl fun hS => sB hS rfl fun hS => qq <| qF hS rfl hM (fun JA hM => ?_) (fun JA hM => ?_)
     ·refine wp_skip ?_
      refine qd <| wp_seq <| ya <| zj (fun a w => ∃ (YQ : Option Addr) (YS : Nat) (Yr : (List qe)) (YU : qk) (YR : Option Addr) (YT : Nat) (Ys : (List Int)) (YV : qk) (Yj : Bool), Ss 94 [] [(0, qE Yi 0), (1, .int .i64 X3), (2, .int .i64 X4), (3, .int .i64 X7), (9, .slice YQ Yr.length YS), (10, .slice YR Ys.length YT), (11, .bool Yj), (12, .int .i64 X6)] H [X8, X9, Ya, YU, YV] F a w ∧ (zX 71 qe.cells 2 YQ Yr YS YU) ∧ (zX 3 (ci .i64) 1 YR Ys YT YV) ∧ (qf.j2 K (qf.l1 K X5 X3 X4 X7 Y2) X5 X6 Yr Ys Yj).wp kr kp) (fun Vj YW => ?_) ?_
      ·refine wp_seq ?_
       refine zC <| sM hS rfl fun hS => sO hS (un rfl rfl) rfl fun hS => sM hS rfl fun hS => ?_
       obtain ⟨JD, hM⟩ := qM hM
       refine z4 10 true 32 (b := (!Yd)) (r := (decide (X3 < (rd X5.L_ X6).Lo_))) hS rfl rfl rfl rfl rfl rfl rfl (fun hb a w hS K hK => ?_) rfl fun a w hS => ?_
       ·refine qA hS rfl rfl rfl hb (mv rfl) rfl fun a w hS => ?_
        refine qA hS rfl rfl rfl hb (mv rfl) rfl fun a w hS => qA hS rfl rfl rfl hb (yx rfl) rfl fun a w hS => qA hS rfl rfl rfl hb (z2 rfl Tryd.runUnderlying68 rfl Tryd.sizeOf65 rfl) rfl fun a w hS => qA hS rfl rfl rfl hb (xh 0 rfl Yb rfl rfl Tryd.isAgg65) rfl fun a w hS => qA hS rfl rfl rfl hb (mv rfl) rfl fun a w hS => ?_
        have YG := jX JD hb
        refine qA hS rfl rfl rfl hb (v7 rfl rfl Tryd.runUnderlying65 Tryd.sizeOf71 (Yc.rd (i := 1) rfl) (fun _ => rfl) rfl YG) rfl fun a w hS => qA hS rfl rfl rfl hb (vi (sz := 2) rfl (Yc.rd (i := 1) rfl) (fun _ => rfl) rfl YG Tryd.runUnderlying71 rfl Tryd.sizeOf3 rfl) rfl fun a w hS => qA hS rfl rfl rfl hb (Zy 0 rfl (Yc.rd (i := 1) rfl) (fun _ => rfl) YG rfl Tryd.isAgg3) rfl fun a w hS => qA hS rfl rfl rfl hb (xp rfl rfl rfl) rfl fun a w hS => ?_
        exact q6 (hK _ _ (hS.up 10 rfl rfl))
       refine qq <| qF hS rfl hM (fun JB hM => ?_) (fun JB hM => ?_)
       ·refine wp_seq ?_
        refine zC <| sM hS rfl fun hS => sM hS rfl fun hS => sM hS rfl fun hS => sO hS (y7 ([.int .i64 X3, .int .i64 X4]) [(0, 1), (1, 1)] Tryd.zeroValue71 Tryd.runUnderlying71 (by intro w; simp [Tryd.sizeOf3]) rfl rfl) rfl fun hS => QG (g := qe.cells) ([(qe.mk X3 X4)] : List qe) [.agg ⟨[.int .i64 X3, .int .i64 X4]⟩] hS Tryd.runUnderlying65 Tryd.sizeOf71 X.el71 rfl rfl rfl (by simp [Value.cells]) rfl rfl rfl rfl rfl fun w Vd Vn Vt Ji hS => ?_
        obtain ⟨JE, hM⟩ := qM hM
        refine Zn (ys := ([(qe.mk X3 X4)] : List qe)) 4 hS rfl rfl YE rfl (Ji.rd (i := 0) rfl) Tryd.runUnderlying65 Tryd.runUnderlying65 X.el71 (fun _ => rfl) rfl vJ JE rfl fun JL w JR JX J5 hz Jj hS => ?_
        have hM := qO hz hM; clear hz
        refine sA hS rfl fun hS => qq <| qh <| sM hS rfl fun hS => sM hS rfl fun hS => QG (g := (ci .i64)) ([X7] : List Int) [.int .i64 X7] hS Tryd.runUnderlying66 Tryd.sizeOf3 X.el3 rfl rfl rfl (by simp [Value.cells]) rfl rfl rfl rfl rfl fun w Ve Vo Vu Jk hS => ?_
        obtain ⟨JF, hM⟩ := qM hM
        refine Zn (ys := ([X7] : List Int)) 6 hS rfl rfl YF rfl (Jk.rd (i := 0) rfl) Tryd.runUnderlying66 Tryd.runUnderlying66 X.el3 (fun _ => rfl) rfl uK JF rfl fun JM w JS JY J6 hz Jl hS => ?_
        have hM := qO hz hM; clear hz
        refine sA hS rfl fun hS => qq <| zC <| sA hS rfl fun hS => q6 <| qd ?_
        exact YW _ _ ⟨JR, JX, JL, J5, JS, JY, JM, J6, true, hS.to [2, 3, 4, 5, 6] (by kernel_rfl) ⟨rfl, rfl, rfl, rfl, rfl, rfl, rfl, rfl, trivial⟩, Jj, Jl, hM⟩
       ·refine wp_skip ?_
        refine qd ?_
        exact YW _ _ ⟨Yv, Yz, Yf, YC, Yw, YA, Yg, YD, Yd, hS.to [0, 1, 2, 3, 4] (by kernel_rfl) ⟨rfl, rfl, rfl, rfl, rfl, rfl, rfl, rfl, trivial⟩, YE, YF, hM⟩
      ·intro a w hI
       obtain ⟨YQ, YS, Yr, YU, YR, YT, Ys, YV, Yj, hS, Jm, Jn, hM⟩ := hI
       rw [qf.j2] at hM
       refine qh <| sM hS rfl fun hS => sM hS rfl fun hS => sO hS (yx rfl) rfl fun hS => sO hS (z2 rfl Tryd.runUnderlying68 rfl Tryd.sizeOf65 rfl) rfl fun hS => sO hS (xh 0 rfl Yb rfl rfl Tryd.isAgg65) rfl fun hS => sM hS rfl fun hS => ?_
       obtain ⟨Y0, hM⟩ := qM hM
       refine sO hS (v7 rfl rfl Tryd.runUnderlying65 Tryd.sizeOf71 (Yc.rd (i := 1) rfl) (fun _ => rfl) rfl Y0) rfl fun hS => sO hS (QT rfl (Yc.rd (i := 1) rfl) (fun _ => rfl) Y0 Tryd.isAgg71 Tryd.sizeOf71 rfl) rfl fun hS => QG (g := qe.cells) ([(qe.mk ((rd X5.L_ X6).Lo_) ((rd X5.L_ X6).Hi_))] : List qe) [.agg ⟨[.int .i64 ((rd X5.L_ X6).Lo_), .int .i64 ((rd X5.L_ X6).Hi_)]⟩] hS Tryd.runUnderlying65 Tryd.sizeOf71 X.el71 rfl rfl rfl (by simp [Value.cells]) rfl rfl rfl rfl rfl fun w Vf Vp Vv Jo hS => ?_
       obtain ⟨JG, hM⟩ := qM hM
       refine Zn (ys := ([(qe.mk ((rd X5.L_ X6).Lo_) ((rd X5.L_ X6).Hi_))] : List qe)) 4 hS rfl rfl Jm rfl (Jo.rd (i := 0) rfl) Tryd.runUnderlying65 Tryd.runUnderlying65 X.el71 (fun _ => rfl) rfl vJ JG rfl fun JN w JT JZ J7 hz Jp hS => ?_
       have hM := qO hz hM; clear hz
       refine sA hS rfl fun hS => qq <| zC <| sM hS rfl fun hS => sM hS rfl fun hS => sO hS (yx rfl) rfl fun hS => sO hS (z2 rfl Tryd.runUnderlying68 rfl Tryd.sizeOf66 rfl) rfl fun hS => sO hS (xh 1 rfl Yb rfl rfl Tryd.isAgg66) rfl fun hS => sM hS rfl fun hS => ?_
       obtain ⟨Y1, hM⟩ := qM hM
       refine sO hS (v7 rfl rfl Tryd.runUnderlying66 Tryd.sizeOf3 (Yk.rd (i := 3) rfl) (fun _ => rfl) rfl Y1) rfl fun hS => sO hS (Xf rfl (Yk.rd (i := 3) rfl) (fun _ => rfl) Y1 rfl Tryd.isAgg3) rfl fun hS => QG (g := (ci .i64)) ([(rd X5.X_ X6)] : List Int) [.int .i64 (rd X5.X_ X6)] hS Tryd.runUnderlying66 Tryd.sizeOf3 X.el3 rfl rfl rfl (by simp [Value.cells]) rfl rfl rfl rfl rfl fun w Vg Vq Vw Jq hS => ?_
       obtain ⟨JH, hM⟩ := qM hM
       refine Zn (ys := ([(rd X5.X_ X6)] : List Int)) 6 hS rfl rfl Jn rfl (Jq.rd (i := 0) rfl) Tryd.runUnderlying66 Tryd.runUnderlying66 X.el3 (fun _ => rfl) rfl uK JH rfl fun JO w JU J0 J8 hz Jr hS => ?_
       have hM := qO hz hM; clear hz
       refine sA hS rfl fun hS => q6 <| z9 (qd ?_)
       refine zC <| sM hS rfl fun hS => sB hS rfl fun hS => zk (v := Value.int .i64) (x0 := (qD (X6 + (1 : Int)))) hS (z1 rfl) rfl fun Vc a w hz hS => ?_
       have hM := qO hz hM; clear hz
       refine q6 <| qd ?_
       exact Je _ _ ⟨JT, JZ, JN, J7, JU, J0, JO, J8, Yj, Vc, hS.to [2, 3, 4, 5, 6] (by kernel_rfl) ⟨rfl, rfl, rfl, rfl, rfl, rfl, rfl, rfl, trivial⟩, Jp, Jr, hM⟩
     ·refine wp_exit ?_
      refine qV (qV (zn (qd ?_)))
      exact Jf _ _ ⟨Yv, Yz, Yf, YC, Yw, YA, Yg, YD, Yd, hS.to [0, 1, 2, 3, 4] (by kernel_rfl) ⟨rfl, rfl, rfl, rfl, rfl, rfl, rfl, trivial⟩, YE, YF, hM⟩
   ·intro a w hI
    obtain ⟨YI, YK, Yl, YM, YJ, YL, Ym, YN, Yt, hS, YY, YZ, hM⟩ := hI
    rw [qf.j3] at hM
    refine zj (fun a w => ∃ (Yo : Option Addr) (Yq : Nat) (Ye : (List qe)) (YO : qk) (Yx : Option Addr) (YB : Nat) (Yh : (List Int)) (YP : qk), Ss 94 [] [(0, qE Yi 0), (9, .slice Yo Ye.length Yq), (10, .slice Yx Yh.length YB)] H [X8, X9, Ya, YO, YP] F a w ∧ (zX 71 qe.cells 2 Yo Ye Yq YO) ∧ (zX 3 (ci .i64) 1 Yx Yh YB YP) ∧ (qf.j4 K Ye Yh).wp kr kp) (fun Vm YX => ?_) ?_
    ·refine wp_seq ?_
     refine zC <| sM hS rfl fun hS => sO hS (un rfl rfl) rfl fun hS => qq <| qF hS rfl hM (fun JC hM => ?_) (fun JC hM => ?_)
     ·refine wp_seq ?_
      refine zC <| sM hS rfl fun hS => sM hS rfl fun hS => sM hS rfl fun hS => sO hS (y7 ([.int .i64 X3, .int .i64 X4]) [(0, 1), (1, 1)] Tryd.zeroValue71 Tryd.runUnderlying71 (by intro w; simp [Tryd.sizeOf3]) rfl rfl) rfl fun hS => QG (g := qe.cells) ([(qe.mk X3 X4)] : List qe) [.agg ⟨[.int .i64 X3, .int .i64 X4]⟩] hS Tryd.runUnderlying65 Tryd.sizeOf71 X.el71 rfl rfl rfl (by simp [Value.cells]) rfl rfl rfl rfl rfl fun w Vh Vr Vx Js hS => ?_
      obtain ⟨JI, hM⟩ := qM hM
      refine Zn (ys := ([(qe.mk X3 X4)] : List qe)) 4 hS rfl rfl YY rfl (Js.rd (i := 0) rfl) Tryd.runUnderlying65 Tryd.runUnderlying65 X.el71 (fun _ => rfl) rfl vJ JI rfl fun JP w JV J1 J9 hz Jt hS => ?_
      have hM := qO hz hM; clear hz
      refine sA hS rfl fun hS => qq <| zC <| sM hS rfl fun hS => sM hS rfl fun hS => QG (g := (ci .i64)) ([X7] : List Int) [.int .i64 X7] hS Tryd.runUnderlying66 Tryd.sizeOf3 X.el3 rfl rfl rfl (by simp [Value.cells]) rfl rfl rfl rfl rfl fun w Vi Vs Vy Ju hS => ?_
      obtain ⟨JK, hM⟩ := qM hM
      refine Zn (ys := ([X7] : List Int)) 6 hS rfl rfl YZ rfl (Ju.rd (i := 0) rfl) Tryd.runUnderlying66 Tryd.runUnderlying66 X.el3 (fun _ => rfl) rfl uK JK rfl fun JQ w JW J2 Va hz Jv hS => ?_
      have hM := qO hz hM; clear hz
      refine sA hS rfl fun hS => q6 <| qd ?_
      exact YX _ _ ⟨JV, J1, JP, J9, JW, J2, JQ, Va, hS.to [2, 3, 4, 5, 6] (by kernel_rfl) ⟨rfl, rfl, rfl, trivial⟩, Jt, Jv, hM⟩
     ·refine wp_skip ?_
      refine qd ?_
      exact YX _ _ ⟨YI, YK, Yl, YM, YJ, YL, Ym, YN, hS.to [0, 1, 2, 3, 4] (by kernel_rfl) ⟨rfl, rfl, rfl, trivial⟩, YY, YZ, hM⟩
    ·intro a w hI
     obtain ⟨Yo, Yq, Ye, YO, Yx, YB, Yh, YP, hS, Jw, Jx, hM⟩ := hI
     rw [qf.j4] at hM
     refine qh <| sM hS rfl fun hS => sM hS rfl fun hS => sO hS (yx rfl) rfl fun hS => sO hS (z2 rfl Tryd.runUnderlying68 rfl Tryd.sizeOf65 rfl) rfl fun hS => Z2 0 ([.slice Yo Ye.length Yq, .slice Yn X5.X_.length Yp]) hS rfl rfl Yb rfl rfl rfl rfl Tryd.sizeOf65 fun w Vz Jc hS => qq <| qh <| sM hS rfl fun hS => sM hS rfl fun hS => sO hS (yx rfl) rfl fun hS => sO hS (z2 rfl Tryd.runUnderlying68 rfl Tryd.sizeOf66 rfl) rfl fun hS => Z2 0 ([.slice Yo Ye.length Yq, .slice Yx Yh.length YB]) hS rfl rfl Jc rfl rfl rfl rfl Tryd.sizeOf66 fun w Vb Jd hS => qq <| qh <| sA hS rfl fun hS => qq <| wp_ret ?_
     exact qP (rs := [8]) hS rfl rfl (hret (0 : Int) Yo Yq Ye YO Yx YB Yh YP Vb _ (qG hM) Jw Jx Jd (hS.st.pick [0, 3, 4] (by kernel_rfl)))
theorem y3 {H : zv} {F : List qk} {w : World} {R : Ending → World → Prop} {kr : Bool → Prop} {kp : Value → Prop} (hG : Gl H) (K : Nat) (X3 : List UInt8)
    (hS : St w H [] F) (hm : (zc.m K X3).wp kr kp)
    (hret : ∀ (X7 : Bool) (w : World), kr X7 → St w H [] F → R (.returned (.bool X7)) w) :
    Calls Tryd.prog 35 ⟨[qi X3]⟩ w R := by
 refine enter Tryd.func35 rfl Tryd.ntmps35 rfl hS fun a w hS => ?_
 have hM := hm; clear hm
 rw [zc.m] at hM
 refine qh <| sA hS rfl fun hS => qq <| wp_seq <| qh <| sA hS rfl fun hS => qq <| ya <| zD (fun X6 a w => ∃ (X4 : Int), Ss 23 [] [(0, qi X3), (3, .int .i64 X4)] H [] F a w ∧ (zc.l1 K X3 X6 X4).wp kr kp) K ?_ ?_ ?_
 ·exact ⟨(0 : Int), hS.to [] (by kernel_rfl) ⟨rfl, rfl, trivial⟩, hM⟩
 ·intro a w hI; obtain ⟨_, _, hM⟩ := hI; exact zx hM
 ·intro X6 a w hI Yd X8
  obtain ⟨X4, hS, hM⟩ := hI
  rw [zc.l1] at hM
  refine wp_seq <| qh <| sM hS rfl fun hS => sM hS rfl fun hS => sO hS (xd rfl Tryd.runUnderlying9) rfl fun hS => sB hS rfl fun hS => qq <| qF hS rfl hM (fun X9 hM => ?_) (fun X9 hM => ?_)
  ·refine wp_skip ?_
   refine qd <| wp_seq <| ya <| qh <| sM hS rfl fun hS => sM hS rfl fun hS => ?_
   obtain ⟨X5, hM⟩ := qM hM
   refine sO hS (uH rfl rfl Tryd.runUnderlying9 X5) rfl fun hS => sB hS rfl fun hS => sM hS rfl fun hS => z4 4 false 14 (b := (decide (((rd X3 X4).toNat : Int) < (32 : Int)))) (r := (decide (((rd X3 X4).toNat : Int) > (126 : Int)))) hS rfl rfl rfl rfl rfl rfl rfl (fun hb a w hS K hK => ?_) rfl fun a w hS => ?_
   ·refine qA hS rfl rfl rfl hb (mv rfl) rfl fun a w hS => ?_
    refine qA hS rfl rfl rfl hb (mv rfl) rfl fun a w hS => qA hS rfl rfl rfl hb (uH rfl rfl Tryd.runUnderlying9 X5) rfl fun a w hS => qA hS rfl rfl rfl hb (xp rfl rfl rfl) rfl fun a w hS => ?_
    exact q6 (hK _ _ (hS.up 4 rfl rfl))
   refine qq <| qF hS rfl hM (fun Ya hM => ?_) (fun Ya hM => ?_)
   ·refine wp_seq ?_
    refine zC <| sA hS rfl fun hS => qq <| wp_ret <| zl (qj (qj (zl (qj ?_))))
    exact qP (rs := [2]) hS rfl rfl (hret false _ (qG hM) (hS.st.pick [] (by kernel_rfl)))
   ·refine wp_skip ?_
    refine z9 (qd ?_)
    refine zC <| sM hS rfl fun hS => sB hS rfl fun hS => zk (v := Value.int .i64) (x0 := (qD (X4 + (1 : Int)))) hS (z1 rfl) rfl fun Yb a w hz hS => ?_
    have hM := qO hz hM; clear hz
    refine q6 <| qd ?_
    exact X8 _ _ ⟨Yb, hS.to [] (by kernel_rfl) ⟨rfl, rfl, trivial⟩, hM⟩
  ·refine wp_exit ?_
   refine qV (qV (zn (qd ?_)))
   refine qh <| sM hS rfl fun hS => sO hS (xd rfl Tryd.runUnderlying9) rfl fun hS => sB hS rfl fun hS => zk (v := Value.bool) (x0 := ((X3.length : Int) == (4 : Int))) hS (z1 rfl) rfl fun Yc a w hz hS => ?_
   have hM := qO hz hM; clear hz
   refine qq <| wp_ret ?_
   exact qP (rs := [2]) hS rfl rfl (hret Yc _ (qG hM) (hS.st.pick [] (by kernel_rfl)))
theorem xO {H : zv} {F : List qk} {w : World} {R : Ending → World → Prop} {kr : Int → Prop} {kp : Value → Prop} (hG : Gl H) (K : Nat) (X3 : Int)
    (hS : St w H [] F) (hm : (zz.m K X3).wp kr kp)
    (hret : ∀ (X4 : Int) (w : World), kr X4 → St w H [] F → R (.returned (.int .i64 X4)) w) :
    Calls Tryd.prog 37 ⟨[.int .i64 X3]⟩ w R := by
 refine enter Tryd.func37 rfl Tryd.ntmps37 rfl hS fun a w hS => ?_
 have hM := hm; clear hm
 rw [zz.m] at hM
 refine qh <| sA hS rfl fun hS => qq <| qh <| sM hS rfl fun hS => sB hS rfl fun hS => sO hS (quo rfl rfl rfl) rfl fun hS => sB hS rfl fun hS => zk (v := Value.int .i64) (x0 := (qD ((jf .i64 (qD (X3 + (3 : Int))) (4 : Int)) * (4 : Int)))) hS (z1 rfl) rfl fun X5 a w hz hS => ?_
 have hM := qO hz hM; clear hz
 refine qq <| wp_ret ?_
 exact qP (rs := [2]) hS rfl rfl (hret X5 _ (qG hM) (hS.st.pick [] (by kernel_rfl)))
theorem yG {H : zv} {F : List qk} {w : World} {R : Ending → World → Prop} {kr : ((List UInt8) × (List UInt8) × Int × Int × Int) → Prop} {kp : Value → Prop} (hG : Gl H) (K : Nat) (X7 : List UInt8) (X6 : List UInt8)
    (hS : St w H [] F) (hm : (qI.m K X7 X6).wp kr kp)
    (hret : ∀ (Yg : List UInt8) (Ya : List UInt8) (Yi : Int) (Yh : Int) (Yk : Int) (w : World), kr (Yg, Ya, Yi, Yh, Yk) → St w H [] F → R (.returned (.tuple ⟨[.agg ⟨[qi Yg, qi Ya]⟩, .agg ⟨[.int .i64 Yi, .int .i64 Yh]⟩, .int .i64 Yk]⟩)) w) :
    Calls Tryd.prog 36 ⟨[qi X7, qi X6]⟩ w R := by
 refine enter Tryd.func36 rfl Tryd.ntmps36 rfl hS fun a w hS => ?_
 have hM := hm; clear hm
 rw [qI.m] at hM
 refine qh <| vn ([qi ([] : List UInt8), qi ([] : List UInt8)]) hS Tryd.zeroValue36 rfl rfl fun w Yd Yb X8 hS => vn ([.int .i64 (0 : Int), .int .i64 (0 : Int)]) hS Tryd.zeroValue71 rfl rfl fun w Ye Yc X9 hS => sA hS rfl fun hS => qq <| qh <| sM hS rfl fun hS => qn hS rfl Tryd.call33 (zy hG K X6 (8 : Int) (4 : Int) (hS.st.part 0 [0, 1] (by kernel_rfl)) (qg hM) (fun X3 w hM  hst => ql hS.ev hst.appF rfl fun hS => ?_))
 replace hS : Ss _ _ _ H [Yc, Yb] F _ _ := hS
 refine sA hS rfl fun hS => qq <| qh <| sM hS rfl fun hS => qn hS rfl Tryd.call33 (zy hG K X6 (12 : Int) (4 : Int) (hS.st.part 0 [0, 1] (by kernel_rfl)) (qg hM) (fun X4 w hM  hst => ql hS.ev hst.appF rfl fun hS => ?_))
 replace hS : Ss _ _ _ H [Yc, Yb] F _ _ := hS
 refine sA hS rfl fun hS => qq <| wp_seq <| qh <| sM hS rfl fun hS => sO hS (rem rfl rfl rfl) rfl fun hS => sB hS rfl fun hS => sM hS rfl fun hS => z4 2 false 18 (b := ((jg X3 (4 : Int)) != (0 : Int))) (r := (decide (X4 > (16777216 : Int)))) hS rfl rfl rfl rfl rfl rfl rfl (fun hb a w hS K hK => ?_) rfl fun a w hS => ?_
 ·refine qA hS rfl rfl rfl hb (mv rfl) rfl fun a w hS => ?_
  refine qA hS rfl rfl rfl hb (xp rfl rfl rfl) rfl fun a w hS => ?_
  exact q6 (hK _ _ (hS.up 2 rfl rfl))
 refine qq <| qF hS rfl hM (fun Yv hM => ?_) (fun Yv hM => ?_)
 ·refine wp_seq ?_
  refine zC <| sO hS (y7 ([qi ([] : List UInt8), qi ([] : List UInt8)]) [(0, 1), (1, 1)] Tryd.zeroValue36 Tryd.runUnderlying36 (by intro w; simp [Tryd.sizeOf9]) rfl rfl) rfl fun hS => sO hS (y7 ([.int .i64 (0 : Int), .int .i64 (0 : Int)]) [(0, 1), (1, 1)] Tryd.zeroValue71 Tryd.runUnderlying71 (by intro w; simp [Tryd.sizeOf3]) rfl rfl) rfl fun hS => y5 1 ([qi ([] : List UInt8), qi ([] : List UInt8)]) ([qi ([] : List UInt8), qi ([] : List UInt8)]) hS rfl rfl X8 rfl rfl Tryd.sizeOf36 (by simp [Value.oneCell']) (Nat.le_of_ble_eq_true rfl) rfl fun w YH Yl hS => y5 0 ([.int .i64 (0 : Int), .int .i64 (0 : Int)]) ([.int .i64 (0 : Int), .int .i64 (0 : Int)]) hS rfl rfl X9 rfl rfl Tryd.sizeOf71 (by simp [Value.oneCell']) (Nat.le_of_ble_eq_true rfl) rfl fun w YI Ym hS => sA hS rfl fun hS => qq <| wp_ret <| qj ?_
  exact xC (vs := [.agg ⟨[qi ([] : List UInt8), qi ([] : List UInt8)]⟩, .agg ⟨[.int .i64 (0 : Int), .int .i64 (0 : Int)]⟩, .int .i64 (3 : Int)]) hS rfl (by exact ⟨vT 1 ([qi ([] : List UInt8), qi ([] : List UInt8)]) rfl Yl rfl rfl rfl Tryd.isAgg36 Tryd.sizeOf36, vT 0 ([.int .i64 (0 : Int), .int .i64 (0 : Int)]) rfl Ym rfl rfl rfl Tryd.isAgg71 Tryd.sizeOf71, QA rfl, trivial⟩) (hret ([] : List UInt8) ([] : List UInt8) (0 : Int) (0 : Int) (3 : Int) _ (qG hM) (hS.st.pick [] (by kernel_rfl)))
 ·refine wp_skip ?_
  refine qd <| qh <| sM hS rfl fun hS => sM hS rfl fun hS => qn hS rfl Tryd.call37 (xO hG K X4 (hS.st.part 0 [0, 1] (by kernel_rfl)) (qg hM) (fun YE w hM  hst => ql hS.ev hst.appF rfl fun hS => ?_))
  replace hS : Ss _ _ _ H [Yc, Yb] F _ _ := hS
  refine sB hS rfl fun hS => zk (v := Value.int .i64) (x0 := (qD (X3 + YE))) hS (z1 rfl) rfl fun X5 a w hz hS => ?_
  have hM := qO hz hM; clear hz
  refine qq <| wp_seq <| qh <| sM hS rfl fun hS => sM hS rfl fun hS => sO hS (xd rfl Tryd.runUnderlying9) rfl fun hS => sB hS rfl fun hS => qq <| qF hS rfl hM (fun Yw hM => ?_) (fun Yw hM => ?_)
  ·refine wp_seq ?_
   refine zC <| sO hS (y7 ([qi ([] : List UInt8), qi ([] : List UInt8)]) [(0, 1), (1, 1)] Tryd.zeroValue36 Tryd.runUnderlying36 (by intro w; simp [Tryd.sizeOf9]) rfl rfl) rfl fun hS => sO hS (y7 ([.int .i64 (0 : Int), .int .i64 (0 : Int)]) [(0, 1), (1, 1)] Tryd.zeroValue71 Tryd.runUnderlying71 (by intro w; simp [Tryd.sizeOf3]) rfl rfl) rfl fun hS => y5 1 ([qi ([] : List UInt8), qi ([] : List UInt8)]) ([qi ([] : List UInt8), qi ([] : List UInt8)]) hS rfl rfl X8 rfl rfl Tryd.sizeOf36 (by simp [Value.oneCell']) (Nat.le_of_ble_eq_true rfl) rfl fun w YJ Yn hS => y5 0 ([.int .i64 (0 : Int), .int .i64 (0 : Int)]) ([.int .i64 (0 : Int), .int .i64 (0 : Int)]) hS rfl rfl X9 rfl rfl Tryd.sizeOf71 (by simp [Value.oneCell']) (Nat.le_of_ble_eq_true rfl) rfl fun w YK Yo hS => sA hS rfl fun hS => qq <| wp_ret <| qj ?_
   exact xC (vs := [.agg ⟨[qi ([] : List UInt8), qi ([] : List UInt8)]⟩, .agg ⟨[.int .i64 (0 : Int), .int .i64 (0 : Int)]⟩, .int .i64 (2 : Int)]) hS rfl (by exact ⟨vT 1 ([qi ([] : List UInt8), qi ([] : List UInt8)]) rfl Yn rfl rfl rfl Tryd.isAgg36 Tryd.sizeOf36, vT 0 ([.int .i64 (0 : Int), .int .i64 (0 : Int)]) rfl Yo rfl rfl rfl Tryd.isAgg71 Tryd.sizeOf71, QA rfl, trivial⟩) (hret ([] : List UInt8) ([] : List UInt8) (0 : Int) (0 : Int) (2 : Int) _ (qG hM) (hS.st.pick [] (by kernel_rfl)))
  ·refine wp_skip ?_
   refine qd <| zj (fun a w => Ss 60 [] [(0, qi X7), (1, qi X6), (4, qE Yd 0), (5, qE Ye 0), (7, .int .i64 X3), (8, .int .i64 X4), (9, .int .i64 X5)] H [Yb, Yc] F a w ∧ (qI.j2 K X7 X6 X3 X4 X5).wp kr kp) (fun YG Yu => ?_) ?_
   ·refine wp_seq ?_
    refine zC <| sM hS rfl fun hS => sM hS rfl fun hS => sB hS rfl fun hS => zk (v := Value.int .i64) (x0 := (qD (X3 + X4))) hS (z1 rfl) rfl fun YC a w hz hS => ?_
    have hM := qO hz hM; clear hz
    refine qq <| ya <| zD (fun Yj a w => ∃ (Yf : Int), Ss 60 [] [(0, qi X7), (1, qi X6), (4, qE Yd 0), (5, qE Ye 0), (7, .int .i64 X3), (8, .int .i64 X4), (9, .int .i64 X5), (10, .int .i64 Yf)] H [Yb, Yc] F a w ∧ (qI.l1 K X7 X6 X3 X4 X5 Yj Yf).wp kr kp) K ?_ ?_ ?_
    ·exact ⟨YC, hS.to [1, 0] (by kernel_rfl) ⟨rfl, rfl, rfl, rfl, rfl, rfl, rfl, rfl, trivial⟩, hM⟩
    ·intro a w hI; obtain ⟨_, _, hM⟩ := hI; exact zx hM
    ·intro Yj a w hI YF Yt
     obtain ⟨Yf, hS, hM⟩ := hI
     rw [qI.l1] at hM
     refine wp_seq <| qh <| sM hS rfl fun hS => sM hS rfl fun hS => sB hS rfl fun hS => qq <| qF hS rfl hM (fun Yx hM => ?_) (fun Yx hM => ?_)
     ·refine wp_skip ?_
      refine qd <| wp_seq <| ya <| qh <| sM hS rfl fun hS => sM hS rfl fun hS => ?_
      obtain ⟨Yz, hM⟩ := qM hM
      refine sO hS (uH rfl rfl Tryd.runUnderlying9 Yz) rfl fun hS => sB hS rfl fun hS => qq <| qF hS rfl hM (fun Yy hM => ?_) (fun Yy hM => ?_)
      ·refine wp_seq ?_
       refine zC <| sO hS (y7 ([qi ([] : List UInt8), qi ([] : List UInt8)]) [(0, 1), (1, 1)] Tryd.zeroValue36 Tryd.runUnderlying36 (by intro w; simp [Tryd.sizeOf9]) rfl rfl) rfl fun hS => sO hS (y7 ([.int .i64 (0 : Int), .int .i64 (0 : Int)]) [(0, 1), (1, 1)] Tryd.zeroValue71 Tryd.runUnderlying71 (by intro w; simp [Tryd.sizeOf3]) rfl rfl) rfl fun hS => y5 0 ([qi ([] : List UInt8), qi ([] : List UInt8)]) ([qi ([] : List UInt8), qi ([] : List UInt8)]) hS rfl rfl X8 rfl rfl Tryd.sizeOf36 (by simp [Value.oneCell']) (Nat.le_of_ble_eq_true rfl) rfl fun w YL Yp hS => y5 1 ([.int .i64 (0 : Int), .int .i64 (0 : Int)]) ([.int .i64 (0 : Int), .int .i64 (0 : Int)]) hS rfl rfl X9 rfl rfl Tryd.sizeOf71 (by simp [Value.oneCell']) (Nat.le_of_ble_eq_true rfl) rfl fun w YM Yq hS => sA hS rfl fun hS => qq <| wp_ret <| zl (qj (qj (zl (qj ?_))))
       exact xC (vs := [.agg ⟨[qi ([] : List UInt8), qi ([] : List UInt8)]⟩, .agg ⟨[.int .i64 (0 : Int), .int .i64 (0 : Int)]⟩, .int .i64 (3 : Int)]) hS rfl (by exact ⟨vT 0 ([qi ([] : List UInt8), qi ([] : List UInt8)]) rfl Yp rfl rfl rfl Tryd.isAgg36 Tryd.sizeOf36, vT 1 ([.int .i64 (0 : Int), .int .i64 (0 : Int)]) rfl Yq rfl rfl rfl Tryd.isAgg71 Tryd.sizeOf71, QA rfl, trivial⟩) (hret ([] : List UInt8) ([] : List UInt8) (0 : Int) (0 : Int) (3 : Int) _ (qG hM) (hS.st.pick [] (by kernel_rfl)))
      ·refine wp_skip ?_
       refine z9 (qd ?_)
       refine zC <| sM hS rfl fun hS => sB hS rfl fun hS => zk (v := Value.int .i64) (x0 := (qD (Yf + (1 : Int)))) hS (z1 rfl) rfl fun YD a w hz hS => ?_
       have hM := qO hz hM; clear hz
       refine q6 <| qd ?_
       exact Yt _ _ ⟨YD, hS.to [0, 1] (by kernel_rfl) ⟨rfl, rfl, rfl, rfl, rfl, rfl, rfl, rfl, trivial⟩, hM⟩
     ·refine wp_exit ?_
      refine qV (qV (zn (qd ?_)))
      exact Yu _ _ ⟨hS.to [0, 1] (by kernel_rfl) ⟨rfl, rfl, rfl, rfl, rfl, rfl, rfl, trivial⟩, hM⟩
   ·intro a w hI
    obtain ⟨hS, hM⟩ := hI
    rw [qI.j2] at hM
    refine wp_seq ?_
    obtain ⟨YA, hM⟩ := qM hM
    obtain ⟨YB, hM⟩ := qM hM
    refine zg (vals := [some (qi X6), some (qi (sub X6 (0 : Int) (4 : Int))), some (qi X7), some (.int .i64 X3), some (.int .i64 X3), some (.int .i64 X4), some (.int .i64 (qD (X3 + X4))), some (qi (sub X7 X3 (qD (X3 + X4)))), some (.agg ⟨[qi (sub X6 (0 : Int) (4 : Int)), qi (sub X7 X3 (qD (X3 + X4)))]⟩), some (.int .i64 X3), some (.int .i64 X5), some (.agg ⟨[.int .i64 X3, .int .i64 X5]⟩), none, none, none]) hS xy rfl ?_
    intro l w ho hcl hA hst
    refine ym hA hst ho hcl xk xB 12 [0, 1, 2, 3, 4, 5, 6, 7, 8, 9, 10, 11] rfl rfl rfl rfl rfl (by exact ⟨nM rfl, nQ rfl (by exact qJ (Qh rfl Tryd.runUnderlying9 QX (u3 rfl) YA) rfl), nM rfl, nM rfl, nM rfl, nM rfl, nB rfl, nQ rfl (by exact qJ (Qh rfl Tryd.runUnderlying9 (Qt rfl) (u3 rfl) YB) rfl), nQ rfl (by exact qJ (y7 ([qi (sub X6 (0 : Int) (4 : Int)), qi (sub X7 X3 (qD (X3 + X4)))]) [(0, 1), (1, 1)] Tryd.zeroValue36 Tryd.runUnderlying36 (by intro w; simp [Tryd.sizeOf9]) rfl rfl) rfl), nM rfl, nM rfl, nQ rfl (by exact qJ (y7 ([.int .i64 X3, .int .i64 X5]) [(0, 1), (1, 1)] Tryd.zeroValue71 Tryd.runUnderlying71 (by intro w; simp [Tryd.sizeOf3]) rfl rfl) rfl), trivial⟩) fun D l a w ho hcl hav hpre hm hE hk hA hst => ?_
    have hS := (Ss.mk hE hst).env2 (e' := [(4, qE Yd 0), (56, .agg ⟨[qi (sub X6 (0 : Int) (4 : Int)), qi (sub X7 X3 (qD (X3 + X4)))]⟩)]) ⟨rfl, rfl, trivial⟩
    refine qz rfl <| y5 0 ([qi (sub X6 (0 : Int) (4 : Int)), qi (sub X7 X3 (qD (X3 + X4)))]) ([qi (sub X6 (0 : Int) (4 : Int)), qi (sub X7 X3 (qD (X3 + X4)))]) hS rfl rfl X8 rfl rfl Tryd.sizeOf36 (by simp [Value.oneCell']) (Nat.le_of_ble_eq_true rfl) rfl fun w YN Yr hS => qq ?_
    replace hst := hS.st
    obtain ⟨hcl, hmust, hav2, hA⟩ := Zq (vals' := [some (qi X6), some (qi (sub X6 (0 : Int) (4 : Int))), some (qi X7), some (.int .i64 X3), some (.int .i64 X3), some (.int .i64 X4), some (.int .i64 (qD (X3 + X4))), some (qi (sub X7 X3 (qD (X3 + X4)))), some (.agg ⟨[qi (sub X6 (0 : Int) (4 : Int)), qi (sub X7 X3 (qD (X3 + X4)))]⟩), some (.int .i64 X3), some (.int .i64 X5), some (.agg ⟨[.int .i64 X3, .int .i64 X5]⟩), some undef, none, none]) 12 [(0, 12), (1, 12), (2, 12), (3, 12), (4, 12), (5, 12), (6, 12), (7, 12), (8, 12)] hA hcl hav hm hpre rfl rfl rfl rfl rfl
    clear hm hav
    refine ym hA hst ho hcl hav2 hmust 13 [9, 10, 11] rfl rfl rfl rfl rfl (by exact ⟨nM rfl, nM rfl, nQ rfl (by exact qJ (y7 ([.int .i64 X3, .int .i64 X5]) [(0, 1), (1, 1)] Tryd.zeroValue71 Tryd.runUnderlying71 (by intro w; simp [Tryd.sizeOf3]) rfl rfl) rfl), trivial⟩) fun D l a w ho hcl hav hpre hm hE hk hA hst => ?_
    have hS := (Ss.mk hE hst).env2 (e' := [(5, qE Ye 0), (59, .agg ⟨[.int .i64 X3, .int .i64 X5]⟩)]) ⟨rfl, rfl, trivial⟩
    refine qz rfl <| y5 1 ([.int .i64 X3, .int .i64 X5]) ([.int .i64 X3, .int .i64 X5]) hS rfl rfl X9 rfl rfl Tryd.sizeOf71 (by simp [Value.oneCell']) (Nat.le_of_ble_eq_true rfl) rfl fun w YO Ys hS => qq ?_
    replace hst := hS.st
    obtain ⟨hcl, hmust, hav2, hA⟩ := Zq (vals' := [some (qi X6), some (qi (sub X6 (0 : Int) (4 : Int))), some (qi X7), some (.int .i64 X3), some (.int .i64 X3), some (.int .i64 X4), some (.int .i64 (qD (X3 + X4))), some (qi (sub X7 X3 (qD (X3 + X4)))), some (.agg ⟨[qi (sub X6 (0 : Int) (4 : Int)), qi (sub X7 X3 (qD (X3 + X4)))]⟩), some (.int .i64 X3), some (.int .i64 X5), some (.agg ⟨[.int .i64 X3, .int .i64 X5]⟩), some undef, some undef, some (.int .i64 (0 : Int))]) 13 [(0, 13), (1, 13), (2, 13), (3, 13), (4, 13), (5, 13), (6, 13), (7, 13), (8, 13), (9, 13), (10, 13), (11, 13), (12, 13)] hA hcl hav hm hpre rfl rfl rfl rfl rfl
    clear hm hav
    refine xu hA hst ho hcl hmust [14] rfl rfl rfl (by exact ⟨nA rfl, trivial⟩) fun a w hS => ?_
    replace hS := hS.env2 (e' := [(4, qE Yd 0), (5, qE Ye 0), (6, .int .i64 (0 : Int))]) ⟨rfl, rfl, rfl, trivial⟩
    refine qd <| wp_ret ?_
    exact xC (vs := [.agg ⟨[qi (sub X6 (0 : Int) (4 : Int)), qi (sub X7 X3 (qD (X3 + X4)))]⟩, .agg ⟨[.int .i64 X3, .int .i64 X5]⟩, .int .i64 (0 : Int)]) hS rfl (by exact ⟨vT 0 ([qi (sub X6 (0 : Int) (4 : Int)), qi (sub X7 X3 (qD (X3 + X4)))]) rfl Yr rfl rfl rfl Tryd.isAgg36 Tryd.sizeOf36, vT 1 ([.int .i64 X3, .int .i64 X5]) rfl Ys rfl rfl rfl Tryd.isAgg71 Tryd.sizeOf71, QA rfl, trivial⟩) (hret (sub X6 (0 : Int) (4 : Int)) (sub X7 X3 (qD (X3 + X4))) X3 X5 (0 : Int) _ (qG hM) (hS.st.pick [] (by kernel_rfl)))
theorem yF {H : zv} {F : List qk} {w : World} {R : Ending → World → Prop} {kr : Int → Prop} {kp : Value → Prop} (hG : Gl H) (K : Nat) (X6 : List UInt8)
    (hS : St w H [] F) (hm : (qu.m K X6).wp kr kp)
    (hret : ∀ (Ya : Int) (w : World), kr Ya → St w H [] F → R (.returned (.int .u32 Ya)) w) :
    Calls Tryd.prog 17 ⟨[qi X6]⟩ w R := by
 refine enter Tryd.func17 rfl Tryd.ntmps17 rfl hS fun a w hS => ?_
 have hM := hm; clear hm
 rw [qu.m] at hM
 refine qh <| sA hS rfl fun hS => qq <| qh <| sA hS rfl fun hS => qq <| wp_seq <| qh <| sA hS rfl fun hS => qq <| ya <| zD (fun X8 a w => ∃ (X3 : Int) (X4 : Int), Ss 29 [] [(0, qi X6), (3, .int .u32 X3), (4, .int .i64 X4)] H [] F a w ∧ (qu.l1 K X6 X8 X3 X4).wp kr kp) K ?_ ?_ ?_
 ·exact ⟨(0 : Int), (0 : Int), hS.to [] (by kernel_rfl) ⟨rfl, rfl, rfl, trivial⟩, hM⟩
 ·intro a w hI; obtain ⟨_, _, _, hM⟩ := hI; exact zx hM
 ·intro X8 a w hI Yn Ye
  obtain ⟨X3, X4, hS, hM⟩ := hI
  rw [qu.l1] at hM
  refine wp_seq <| qh <| sM hS rfl fun hS => sM hS rfl fun hS => sO hS (xd rfl Tryd.runUnderlying9) rfl fun hS => sB hS rfl fun hS => qq <| qF hS rfl hM (fun Yf hM => ?_) (fun Yf hM => ?_)
  ·refine wp_skip ?_
   refine qd <| wp_seq <| ya <| qh <| sM hS rfl fun hS => sM hS rfl fun hS => ?_
   obtain ⟨Yh, hM⟩ := qM hM
   refine sO hS (uH rfl rfl Tryd.runUnderlying9 Yh) rfl fun hS => sO hS (yB rfl Tryd.runUnderlying5 Tryd.runUnderlying23) rfl fun hS => zk (v := Value.int .u32) (x0 := (wr .u32 ((rd X6 X4).toNat : Int))) hS (z1 rfl) rfl fun Yb a w hz hS => ?_
   have hM := qO hz hM; clear hz
   refine qq <| wp_seq <| qh <| sM hS rfl fun hS => sO hS (rem rfl rfl rfl) rfl fun hS => zk (v := Value.int .i64) (x0 := (jg X4 (4 : Int))) hS (z1 rfl) rfl fun Yi a w hz hS => ?_
   have hM := qO hz hM; clear hz
   refine qq <| ya <| zD (fun X9 a w => ∃ (X5 : Int) (X7 : Int), Ss 29 [] [(0, qi X6), (3, .int .u32 X3), (4, .int .i64 X4), (5, .int .u32 X5), (6, .int .i64 X7)] H [] F a w ∧ (qu.l2 K (qu.l1 K X6 X8) X3 X4 X9 X5 X7).wp kr kp) K ?_ ?_ ?_
   ·exact ⟨Yb, Yi, hS.to [] (by kernel_rfl) ⟨rfl, rfl, rfl, rfl, rfl, trivial⟩, hM⟩
   ·intro a w hI; obtain ⟨_, _, _, hM⟩ := hI; exact zx hM
   ·intro X9 a w hI Ym Yd
    obtain ⟨X5, X7, hS, hM⟩ := hI
    rw [qu.l2] at hM
    refine wp_seq <| qh <| sM hS rfl fun hS => sB hS rfl fun hS => qq <| qF hS rfl hM (fun Yg hM => ?_) (fun Yg hM => ?_)
    ·refine wp_skip ?_
     refine qd <| wp_seq <| ya <| zC <| sM hS rfl fun hS => sB hS rfl fun hS => zk (v := Value.int .u32) (x0 := (wr .u32 (X5 * (256 : Int)))) hS (z1 rfl) rfl fun Yc a w hz hS => ?_
     have hM := qO hz hM; clear hz
     refine q6 <| z9 (qd ?_)
     refine zC <| sM hS rfl fun hS => sB hS rfl fun hS => zk (v := Value.int .i64) (x0 := (qD (X7 + (1 : Int)))) hS (z1 rfl) rfl fun Yj a w hz hS => ?_
     have hM := qO hz hM; clear hz
     refine q6 <| qd ?_
     exact Yd _ _ ⟨Yc, Yj, hS.to [] (by kernel_rfl) ⟨rfl, rfl, rfl, rfl, rfl, trivial⟩, hM⟩
    ·refine wp_exit ?_
     refine qV (qV (zn (qd ?_)))
     refine zC <| sM hS rfl fun hS => sM hS rfl fun hS => sB hS rfl fun hS => zk (v := Value.int .u32) (x0 := (wr .u32 (X3 + X5))) hS (z1 rfl) rfl fun Yk a w hz hS => ?_
     have hM := qO hz hM; clear hz
     refine q6 <| z9 (qd ?_)
     refine zC <| sM hS rfl fun hS => sB hS rfl fun hS => zk (v := Value.int .i64) (x0 := (qD (X4 + (1 : Int)))) hS (z1 rfl) rfl fun Yl a w hz hS => ?_
     have hM := qO hz hM; clear hz
     refine q6 <| qd ?_
     exact Ye _ _ ⟨Yk, Yl, hS.to [] (by kernel_rfl) ⟨rfl, rfl, rfl, trivial⟩, hM⟩
  ·refine wp_exit ?_
   refine qV (qV (zn (qd ?_)))
   refine qh <| sM hS rfl fun hS => sA hS rfl fun hS => qq <| wp_ret ?_
   exact qP (rs := [2]) hS rfl rfl (hret X3 _ (qG hM) (hS.st.pick [] (by kernel_rfl)))
theorem yV {H : zv} {F : List qk} {w : World} {R : Ending → World → Prop} {kr : (Int × (List qb) × Int) → Prop} {kp : Value → Prop} (hG : Gl H) (K : Nat) (X5 : List UInt8)
    (hS : St w H [] F) (hm : (qc.m K X5).wp kr kp)
    (hret : ∀ (Jf : Int) (Y6 : Option Addr) (Y7 : Nat) (Y4 : (List qb)) (Je : qk) (Jg : Int) (w : World), kr (Jf, Y4, Jg) → (zX 36 qb.cells 2 Y6 Y4 Y7 Je) → St w H [Je] F → R (.returned (.tuple ⟨[.int .u32 Jf, .slice Y6 Y4.length Y7, .int .i64 Jg]⟩)) w) :
    Calls Tryd.prog 11 ⟨[qi X5]⟩ w R := by
 refine enter Tryd.func11 rfl Tryd.ntmps11 rfl hS fun a w hS => ?_
 have hM := hm; clear hm
 rw [qc.m] at hM
 refine qh <| sA hS rfl fun hS => sA hS rfl fun hS => ?_
 obtain ⟨YS, Vw, hS⟩ := hS.nilV 36 qb.cells 2
 refine sA hS rfl fun hS => qq <| wp_seq <| qh <| sM hS rfl fun hS => sO hS (xd rfl Tryd.runUnderlying9) rfl fun hS => sB hS rfl fun hS => qq <| qF hS rfl hM (fun JD hM => ?_) (fun JD hM => ?_)
 ·refine wp_seq ?_
  refine zC <| sA hS rfl fun hS => sA hS rfl fun hS => ?_
  obtain ⟨J3, Jn, hS⟩ := hS.nilV 36 qb.cells 2
  refine sA hS rfl fun hS => qq <| wp_ret <| qj ?_
  exact qP (rs := [2, 3, 4]) hS rfl rfl (hret (0 : Int) none (0) ([] : List qb) J3 (2 : Int) _ (qG hM) Jn (hS.st.pick [0] (by kernel_rfl)))
 ·refine wp_skip ?_
  refine qd <| qh <| sM hS rfl fun hS => qn hS rfl Tryd.call33 (zy hG K X5 (0 : Int) (4 : Int) (hS.st.part 0 [0] (by kernel_rfl)) (qg hM) (fun Vo w hM  hst => ql hS.ev hst.appF rfl fun hS => ?_))
  replace hS : Ss _ _ _ H [YS] F _ _ := hS
  refine sO hS (yB rfl Tryd.runUnderlying3 Tryd.runUnderlying23) rfl fun hS => zk (v := Value.int .u32) (x0 := (wr .u32 Vo)) hS (z1 rfl) rfl fun X3 a w hz hS => ?_
  have hM := qO hz hM; clear hz
  refine qq <| qh <| sM hS rfl fun hS => qn hS rfl Tryd.call33 (zy hG K X5 (4 : Int) (2 : Int) (hS.st.part 0 [0] (by kernel_rfl)) (qg hM) (fun X6 w hM  hst => ql hS.ev hst.appF rfl fun hS => ?_))
  replace hS : Ss _ _ _ H [YS] F _ _ := hS
  refine sA hS rfl fun hS => qq <| wp_seq <| zj (fun a w => ∃ (Y1 : Bool), Ss 133 [] [(0, qi X5), (5, .int .u32 X3), (6, .int .i64 X6), (41, .bool Y1)] H [] F a w ∧ (qc.j1 K X5 X3 X6 Y1).wp kr kp) (fun Vy Yu => ?_) ?_
  ·refine zg (vals := [some (.int .u32 X3), none, none, none, none, none, none, none, none, none, none, none, none, none, none, none, none, none, none]) hS xy rfl ?_
   intro l w ho hcl hA hst
   refine ym hA hst ho hcl xk xB 1 [0] rfl rfl rfl rfl rfl (by exact ⟨nM rfl, trivial⟩) fun D l a w ho hcl hav hpre hm hE hk hA hst => ?_
   have hS := (Ss.mk hE hst).env2 (e' := [(23, .int .u32 X3)]) ⟨rfl, trivial⟩
   refine qz rfl <| qn hS rfl Tryd.call18 (yU hG K X3 (hS.st.part 0 [0] (by kernel_rfl)) (qg hM) (fun Vp w hM  hst => ql hS.ev hst.appF rfl fun hS => ?_))
   replace hS : Ss _ _ _ H [YS] F _ _ := hS
   refine qq ?_
   replace hst := hS.st
   refine uC (b := Vp) hM (fun YH hM => ?_) (fun YH hM => ?_)
   ·subst YH
    refine uC (b := (decide (X6 < (1 : Int)))) hM (fun Yv hM => ?_) (fun Yv hM => ?_)
    ·obtain ⟨hcl, hmust, hav2, hA⟩ := dn (vals' := [some (.int .u32 X3), some (.bool true), some (.bool false), some (.bool false), some (.int .i64 X6), some (.bool true), some (.bool true), some (.bool true), some (undef), some (undef), some (.bool true), some (.bool true), some (undef), some (undef), some (undef), some (undef), some (undef), some (undef), some (.bool true)]) 1 [(0, 1)] hA hcl hav hm hpre hk rfl rfl rfl rfl rfl rfl rfl
     clear hm hav
     refine xu hA hst ho hcl hmust [2, 3, 4, 5, 6, 7, 8, 9, 10, 11, 12, 13, 14, 15, 16, 17, 18] rfl rfl rfl (by exact ⟨nQ rfl (by exact qJ (un rfl rfl) rfl), nM rfl, nW rfl rfl rfl rfl rfl rfl rfl rfl (by exact qJ (mv rfl) rfl), nW rfl rfl rfl rfl rfl rfl rfl rfl (by exact qJ (xp rfl rfl rfl) (congrArg Value.bool Yv)), nQ rfl (by exact qJ (pk rfl rfl rfl) rfl), nM rfl, nS rfl rfl rfl rfl rfl rfl rfl rfl rfl, nS rfl rfl rfl rfl rfl rfl rfl rfl rfl, nQ rfl (by exact qJ (pk rfl rfl rfl) rfl), nM rfl, nS rfl rfl rfl rfl rfl rfl rfl rfl rfl, nS rfl rfl rfl rfl rfl rfl rfl rfl rfl, nS rfl rfl rfl rfl rfl rfl rfl rfl rfl, nS rfl rfl rfl rfl rfl rfl rfl rfl rfl, nS rfl rfl rfl rfl rfl rfl rfl rfl rfl, nS rfl rfl rfl rfl rfl rfl rfl rfl rfl, nQ rfl (by exact qJ (pk rfl rfl rfl) rfl), trivial⟩) fun a w hS => ?_
     replace hS := hS.env2 (e' := [(0, qi X5), (5, .int .u32 X3), (6, .int .i64 X6), (41, .bool true)]) ⟨rfl, rfl, rfl, rfl, trivial⟩
     refine qd ?_
     exact Yu _ _ ⟨true, hS.to [] (by kernel_rfl) ⟨rfl, rfl, rfl, rfl, trivial⟩, hM⟩
    ·refine uC (b := (decide (X6 > (1000 : Int)))) hM (fun YI hM => ?_) (fun YI hM => ?_)
     ·obtain ⟨hcl, hmust, hav2, hA⟩ := dn (vals' := [some (.int .u32 X3), some (.bool true), some (.bool false), some (.bool false), some (.int .i64 X6), some (.bool false), some (.bool false), some (.bool false), some (.int .i64 X6), some (.bool true), some (.bool true), some (.bool true), some (undef), some (undef), some (undef), some (undef), some (undef), some (undef), some (.bool true)]) 1 [(0, 1)] hA hcl hav hm hpre hk rfl rfl rfl rfl rfl rfl rfl
      clear hm hav
      refine xu hA hst ho hcl hmust [2, 3, 4, 5, 6, 7, 8, 9, 10, 11, 12, 13, 14, 15, 16, 17, 18] rfl rfl rfl (by exact ⟨nQ rfl (by exact qJ (un rfl rfl) rfl), nM rfl, nW rfl rfl rfl rfl rfl rfl rfl rfl (by exact qJ (mv rfl) rfl), nW rfl rfl rfl rfl rfl rfl rfl rfl (by exact qJ (xp rfl rfl rfl) (congrArg Value.bool Yv)), nQ rfl (by exact qJ (pk rfl rfl rfl) rfl), nM rfl, nW rfl rfl rfl rfl rfl rfl rfl rfl (by exact qJ (mv rfl) rfl), nW rfl rfl rfl rfl rfl rfl rfl rfl (by exact qJ (xp rfl rfl rfl) (congrArg Value.bool YI)), nQ rfl (by exact qJ (pk rfl rfl rfl) rfl), nM rfl, nS rfl rfl rfl rfl rfl rfl rfl rfl rfl, nS rfl rfl rfl rfl rfl rfl rfl rfl rfl, nS rfl rfl rfl rfl rfl rfl rfl rfl rfl, nS rfl rfl rfl rfl rfl rfl rfl rfl rfl, nS rfl rfl rfl rfl rfl rfl rfl rfl rfl, nS rfl rfl rfl rfl rfl rfl rfl rfl rfl, nQ rfl (by exact qJ (pk rfl rfl rfl) rfl), trivial⟩) fun a w hS => ?_
      replace hS := hS.env2 (e' := [(0, qi X5), (5, .int .u32 X3), (6, .int .i64 X6), (41, .bool true)]) ⟨rfl, rfl, rfl, rfl, trivial⟩
      refine qd ?_
      exact Yu _ _ ⟨true, hS.to [] (by kernel_rfl) ⟨rfl, rfl, rfl, rfl, trivial⟩, hM⟩
     ·obtain ⟨YZ, hM⟩ := qM hM
      obtain ⟨hcl, hmust, hav2, hA⟩ := dn (vals' := [some (.int .u32 X3), some (.bool true), some (.bool false), some (.bool false), some (.int .i64 X6), some (.bool false), some (.bool false), some (.bool false), some (.int .i64 X6), some (.bool false), some (.bool false), some (.bool false), some (qi X5), some (qi (sub X5 (0 : Int) (12 : Int))), some (.int .u32 X3), some (.int .i64 X6), none, none, none]) 1 [(0, 1)] hA hcl hav hm hpre hk rfl rfl rfl rfl rfl rfl rfl
      clear hm hav
      refine ym hA hst ho hcl hav2 hmust 16 [2, 3, 4, 5, 6, 7, 8, 9, 10, 11, 12, 13, 14, 15] rfl rfl rfl rfl rfl (by exact ⟨nQ rfl (by exact qJ (un rfl rfl) rfl), nM rfl, nW rfl rfl rfl rfl rfl rfl rfl rfl (by exact qJ (mv rfl) rfl), nW rfl rfl rfl rfl rfl rfl rfl rfl (by exact qJ (xp rfl rfl rfl) (congrArg Value.bool Yv)), nQ rfl (by exact qJ (pk rfl rfl rfl) rfl), nM rfl, nW rfl rfl rfl rfl rfl rfl rfl rfl (by exact qJ (mv rfl) rfl), nW rfl rfl rfl rfl rfl rfl rfl rfl (by exact qJ (xp rfl rfl rfl) (congrArg Value.bool YI)), nQ rfl (by exact qJ (pk rfl rfl rfl) rfl), nM rfl, nW rfl rfl rfl rfl rfl rfl rfl rfl (by exact qJ (mv rfl) rfl), nW rfl rfl rfl rfl rfl rfl rfl rfl (by exact qJ (Qh rfl Tryd.runUnderlying9 QX (u3 rfl) YZ) rfl), nW rfl rfl rfl rfl rfl rfl rfl rfl (by exact qJ (mv rfl) rfl), nW rfl rfl rfl rfl rfl rfl rfl rfl (by exact qJ (mv rfl) rfl), trivial⟩) fun D l a w ho hcl hav hpre hm hE hk hA hst => ?_
      have hS := (Ss.mk hE hst).env2 (e' := [(34, .bool false), (37, .int .u32 X3), (38, .int .i64 X6)]) ⟨rfl, rfl, rfl, trivial⟩
      refine qz rfl <| xF hS rfl rfl rfl rfl <| qn hS rfl Tryd.call21 (yT hG K X3 X6 (hS.st.part 0 [0] (by kernel_rfl)) (qg hM) (fun YD w hM  hst => ql hS.ev hst.appF rfl fun hS => ?_))
      replace hS : Ss _ _ _ H [YS] F _ _ := hS
      refine qq ?_
      replace hst := hS.st
      obtain ⟨hcl, hmust, hav2, hA⟩ := dn (vals' := [some (.int .u32 X3), some (.bool true), some (.bool false), some (.bool false), some (.int .i64 X6), some (.bool false), some (.bool false), some (.bool false), some (.int .i64 X6), some (.bool false), some (.bool false), some (.bool false), some (qi X5), some (qi (sub X5 (0 : Int) (12 : Int))), some (.int .u32 X3), some (.int .i64 X6), some (qi YD), some (.bool (!((sub X5 (0 : Int) (12 : Int)) == YD))), some (.bool (!((sub X5 (0 : Int) (12 : Int)) == YD)))]) 16 [(11, 16), (14, 16), (15, 16), (7, 11), (10, 11), (3, 7), (6, 7), (9, 10), (1, 3), (2, 3), (5, 6), (8, 9), (0, 1), (4, 5)] hA hcl hav hm hpre hk rfl rfl rfl rfl rfl rfl rfl
      clear hm hav
      refine xu hA hst ho hcl hmust [12, 13, 17, 18] rfl rfl rfl (by exact ⟨nW rfl rfl rfl rfl rfl rfl rfl rfl (by exact qJ (mv rfl) rfl), nW rfl rfl rfl rfl rfl rfl rfl rfl (by exact qJ (Qh rfl Tryd.runUnderlying9 QX (u3 rfl) YZ) rfl), nW rfl rfl rfl rfl rfl rfl rfl rfl (by exact qJ (vG rfl rfl rfl) rfl), nQ rfl (by exact qJ (pk rfl rfl rfl) rfl), trivial⟩) fun a w hS => ?_
      replace hS := hS.env2 (e' := [(0, qi X5), (5, .int .u32 X3), (6, .int .i64 X6), (41, .bool (!((sub X5 (0 : Int) (12 : Int)) == YD)))]) ⟨rfl, rfl, rfl, rfl, trivial⟩
      refine qd ?_
      exact Yu _ _ ⟨(!((sub X5 (0 : Int) (12 : Int)) == YD)), hS.to [] (by kernel_rfl) ⟨rfl, rfl, rfl, rfl, trivial⟩, hM⟩
   ·subst YH
    obtain ⟨hcl, hmust, hav2, hA⟩ := dn (vals' := [some (.int .u32 X3), some (.bool false), some (.bool true), some (.bool true), some (undef), some (undef), some (.bool true), some (.bool true), some (undef), some (undef), some (.bool true), some (.bool true), some (undef), some (undef), some (undef), some (undef), some (undef), some (undef), some (.bool true)]) 1 [(0, 1)] hA hcl hav hm hpre hk rfl rfl rfl rfl rfl rfl rfl
    clear hm hav
    refine xu hA hst ho hcl hmust [2, 3, 4, 5, 6, 7, 8, 9, 10, 11, 12, 13, 14, 15, 16, 17, 18] rfl rfl rfl (by exact ⟨nQ rfl (by exact qJ (un rfl rfl) rfl), nM rfl, nS rfl rfl rfl rfl rfl rfl rfl rfl rfl, nS rfl rfl rfl rfl rfl rfl rfl rfl rfl, nQ rfl (by exact qJ (pk rfl rfl rfl) rfl), nM rfl, nS rfl rfl rfl rfl rfl rfl rfl rfl rfl, nS rfl rfl rfl rfl rfl rfl rfl rfl rfl, nQ rfl (by exact qJ (pk rfl rfl rfl) rfl), nM rfl, nS rfl rfl rfl rfl rfl rfl rfl rfl rfl, nS rfl rfl rfl rfl rfl rfl rfl rfl rfl, nS rfl rfl rfl rfl rfl rfl rfl rfl rfl, nS rfl rfl rfl rfl rfl rfl rfl rfl rfl, nS rfl rfl rfl rfl rfl rfl rfl rfl rfl, nS rfl rfl rfl rfl rfl rfl rfl rfl rfl, nQ rfl (by exact qJ (pk rfl rfl rfl) rfl), trivial⟩) fun a w hS => ?_
    replace hS := hS.env2 (e' := [(0, qi X5), (5, .int .u32 X3), (6, .int .i64 X6), (41, .bool true)]) ⟨rfl, rfl, rfl, rfl, trivial⟩
    refine qd ?_
    exact Yu _ _ ⟨true, hS.to [] (by kernel_rfl) ⟨rfl, rfl, rfl, rfl, trivial⟩, hM⟩
  ·intro a w hI
   obtain ⟨Y1, hS, hM⟩ := hI
   rw [qc.j1] at hM
   refine qF hS rfl hM (fun JE hM => ?_) (fun JE hM => ?_)
   ·refine wp_seq ?_
    refine zC <| sA hS rfl fun hS => sA hS rfl fun hS => ?_
    obtain ⟨J4, Jo, hS⟩ := hS.nilV 36 qb.cells 2
    refine sA hS rfl fun hS => qq <| wp_ret <| qj ?_
    exact qP (rs := [2, 3, 4]) hS rfl rfl (hret (0 : Int) none (0) ([] : List qb) J4 (3 : Int) _ (qG hM) Jo (hS.st.pick [0] (by kernel_rfl)))
   ·refine wp_skip ?_
    refine qd <| wp_seq <| qh <| sM hS rfl fun hS => sO hS (xd rfl Tryd.runUnderlying9) rfl fun hS => sM hS rfl fun hS => sB hS rfl fun hS => sB hS rfl fun hS => sB hS rfl fun hS => qq <| qF hS rfl hM (fun JF hM => ?_) (fun JF hM => ?_)
    ·refine wp_seq ?_
     refine zC <| sA hS rfl fun hS => sA hS rfl fun hS => ?_
     obtain ⟨J5, Jp, hS⟩ := hS.nilV 36 qb.cells 2
     refine sA hS rfl fun hS => qq <| wp_ret <| qj ?_
     exact qP (rs := [2, 3, 4]) hS rfl rfl (hret (0 : Int) none (0) ([] : List qb) J5 (2 : Int) _ (qG hM) Jp (hS.st.pick [0] (by kernel_rfl)))
    ·refine wp_skip ?_
     refine qd <| qh <| sO hS (y7 ([.slice none 0 0, .slice none 0 0]) [(0, 1), (1, 1)] Tryd.zeroValue68 Tryd.runUnderlying68 (by intro w; simp [Tryd.sizeOf65, Tryd.sizeOf66]) rfl rfl) rfl fun hS => bx ([.slice none 0 0, .slice none 0 0]) hS rfl rfl rfl fun w Ye J6 Jh hS => ?_
     obtain ⟨J7, Jq, hS⟩ := hS.nilV 71 qe.cells 2
     obtain ⟨J8, Jr, hS⟩ := hS.nilV 3 (ci .i64) 1
     refine sA hS rfl fun hS => qq <| qh <| sM hS rfl fun hS => sM hS rfl fun hS => sB hS rfl fun hS => sB hS rfl fun hS => qn hS rfl Tryd.call34 (xz hG K (q5.mk ([] : List qe) ([] : List Int)) (0 : Int) (qD ((12 : Int) + (qD ((16 : Int) * X6)))) (0 : Int) Ye J6 none (0) J7 none (0) J8 Jh Jq Jr (hS.st.part 3 [2, 1, 0] (by kernel_rfl)) (qg hM) (fun VI JS JY JP Y8 JT JZ Vq Y9 Ja w hM Vh Vi Vj hst => ql hS.ev hst.appF rfl fun hS => ?_))
     replace hS : Ss _ _ _ H [Ja, Y8, Y9] F _ _ := hS
     refine qq <| qh <| sA hS rfl fun hS => ?_
     obtain ⟨J9, Js, hS⟩ := hS.nilV 36 qb.cells 2
     refine qq <| qh <| sA hS rfl fun hS => qq <| zj (fun a w => ∃ (YO : Option Addr) (YR : Nat) (Yh : (List qb)) (YT : qk) (Ys : Int), Ss 133 [] [(5, .int .u32 X3), (8, .slice YO Yh.length YR), (9, .int .i64 Ys)] H [YT] F a w ∧ (zX 36 qb.cells 2 YO Yh YR YT) ∧ (qc.j5 K X3 Yh Ys).wp kr kp) (fun VC Jm => ?_) ?_
     ·refine wp_seq ?_
      refine zC <| sA hS rfl fun hS => qq <| ya <| zD (fun YU a w => ∃ (Yy : Option Addr) (YA : Nat) (Yg : (List qe)) (Yi : qk) (Yz : Option Addr) (YB : Nat) (Yr : (List Int)) (Yj : qk) (Yk : qk) (Yc : Option Addr) (Yf : Nat) (X4 : (List qb)) (Yd : qk) (X9 : Int) (X7 : Int), Ss 133 [] [(0, qi X5), (5, .int .u32 X3), (6, .int .i64 X6), (7, qE Ye 0), (8, .slice Yc X4.length Yf), (9, .int .i64 X9), (10, .int .i64 X7)] H [Yk, Yi, Yj, Yd] F a w ∧ (zX 71 qe.cells 2 Yy Yg YA Yi) ∧ (zX 3 (ci .i64) 1 Yz Yr YB Yj) ∧ (ye Yk Ye ([.slice Yy Yg.length YA, .slice Yz Yr.length YB]) 68) ∧ (zX 36 qb.cells 2 Yc X4 Yf Yd) ∧ (qc.l2 K X5 X3 X6 YU Yg Yr X4 X9 X7).wp kr kp) K ?_ ?_ ?_
      ·exact ⟨JS, JY, JP, Y8, JT, JZ, Vq, Y9, Ja, none, 0, ([] : List qb), J9, (0 : Int), (0 : Int), hS.to [1, 2, 3, 0] (by kernel_rfl) ⟨rfl, rfl, rfl, rfl, rfl, rfl, rfl, trivial⟩, Vh, Vi, Vj, Js, hM⟩
      ·intro a w hI; obtain ⟨_, _, _, _, _, _, _, _, _, _, _, _, _, _, _, _, _, _, _, _, hM⟩ := hI; exact zx hM
      ·intro YU a w hI VB Jl
       obtain ⟨Yy, YA, Yg, Yi, Yz, YB, Yr, Yj, Yk, Yc, Yf, X4, Yd, X9, X7, hS, YX, YY, YV, Yo, hM⟩ := hI
       rw [qc.l2] at hM
       refine wp_seq <| qh <| sM hS rfl fun hS => sM hS rfl fun hS => sB hS rfl fun hS => qq <| qF hS rfl hM (fun JG hM => ?_) (fun JG hM => ?_)
       ·refine wp_skip ?_
        refine qd <| wp_seq <| ya <| qh <| sM hS rfl fun hS => sM hS rfl fun hS => sB hS rfl fun hS => sB hS rfl fun hS => sM hS rfl fun hS => sB hS rfl fun hS => sB hS rfl fun hS => ?_
        obtain ⟨JN, hM⟩ := qM hM
        refine sO hS (Qh rfl Tryd.runUnderlying9 (Qt rfl) (u3 rfl) JN) rfl fun hS => zk (v := qi) (x0 := (sub X5 (qD ((12 : Int) + (qD ((16 : Int) * X7)))) (qD ((28 : Int) + (qD ((16 : Int) * X7)))))) hS (z1 rfl) rfl fun X8 a w hz hS => ?_
        have hM := qO hz hM; clear hz
        refine qq <| wp_seq <| zj (fun a w => ∃ (Y2 : Bool), Ss 133 [] [(0, qi X5), (5, .int .u32 X3), (6, .int .i64 X6), (7, qE Ye 0), (8, .slice Yc X4.length Yf), (9, .int .i64 X9), (10, .int .i64 X7), (11, qi X8), (86, .bool Y2)] H [Yk, Yi, Yj, Yd] F a w ∧ (qc.j3 K (qc.l2 K X5 X3 X6 YU) X5 Yg Yr X4 X9 X7 X8 Y2).wp kr kp) (fun Vz YG => ?_) ?_
        ·obtain ⟨Y0, hM⟩ := qM hM
         refine zg (vals := [some (qi X8), some (qi (sub X8 (0 : Int) (4 : Int))), none, none, none, none, none, none, none, none, none, none, none, none, none, none, none, none, none]) hS xy rfl ?_
         intro l w ho hcl hA hst
         refine ym hA hst ho hcl xk xB 2 [0, 1] rfl rfl rfl rfl rfl (by exact ⟨nM rfl, nQ rfl (by exact qJ (Qh rfl Tryd.runUnderlying9 QX (u3 rfl) Y0) rfl), trivial⟩) fun D l a w ho hcl hav hpre hm hE hk hA hst => ?_
         have hS := (Ss.mk hE hst).env2 (e' := [(69, qi (sub X8 (0 : Int) (4 : Int)))]) ⟨rfl, trivial⟩
         refine qz rfl <| qn hS rfl Tryd.call35 (y3 hG K (sub X8 (0 : Int) (4 : Int)) (hS.st.part 0 [0, 1, 2, 3] (by kernel_rfl)) (qg hM) (fun Vr w hM  hst => ql hS.ev hst.appF rfl fun hS => ?_))
         replace hS : Ss _ _ _ H [Yk, Yi, Yj, Yd] F _ _ := hS
         refine qq ?_
         replace hst := hS.st
         refine uC (b := Vr) hM (fun YJ hM => ?_) (fun YJ hM => ?_)
         ·subst YJ
          refine uC (b := (decide (X7 > (0 : Int)))) hM (fun YK hM => ?_) (fun YK hM => ?_)
          ·obtain ⟨YL, hM⟩ := qM hM
           obtain ⟨hcl, hmust, hav2, hA⟩ := dn (vals' := [some (qi X8), some (qi (sub X8 (0 : Int) (4 : Int))), some (.bool true), some (.bool false), some (.bool false), some (.int .i64 X7), some (.bool true), some (.bool true), some (.slice Yc X4.length Yf), some (.int .i64 X7), some (.int .i64 (qD (X7 - (1 : Int)))), some (jK Yc (Int.toNat (qD (X7 - (1 : Int))) * 2)), some (jK Yc (Int.toNat (qD (X7 - (1 : Int))) * 2 + 0)), some (qi ((rd X4 (qD (X7 - (1 : Int)))).Tag_)), some (qi X8), some (qi (sub X8 (0 : Int) (4 : Int))), some (.bool (!Op.bytesLess (rd X4 (qD (X7 - (1 : Int)))).Tag_ (sub X8 (0 : Int) (4 : Int)))), some (.bool (!Op.bytesLess (rd X4 (qD (X7 - (1 : Int)))).Tag_ (sub X8 (0 : Int) (4 : Int)))), some (.bool (!Op.bytesLess (rd X4 (qD (X7 - (1 : Int)))).Tag_ (sub X8 (0 : Int) (4 : Int))))]) 2 [(1, 2), (0, 1)] hA hcl hav hm hpre hk rfl rfl rfl rfl rfl rfl rfl
           clear hm hav
           refine xu hA hst ho hcl hmust [3, 4, 5, 6, 7, 8, 9, 10, 11, 12, 13, 14, 15, 16, 17, 18] rfl rfl rfl (by exact ⟨nQ rfl (by exact qJ (un rfl rfl) rfl), nM rfl, nW rfl rfl rfl rfl rfl rfl rfl rfl (by exact qJ (mv rfl) rfl), nW rfl rfl rfl rfl rfl rfl rfl rfl (by exact qJ (xp rfl rfl rfl) (congrArg Value.bool YK)), nW rfl rfl rfl rfl rfl rfl rfl rfl (by exact qJ (mv rfl) rfl), nW rfl rfl rfl rfl rfl rfl rfl rfl (by exact qJ (mv rfl) rfl), nW rfl rfl rfl rfl rfl rfl rfl rfl (by exact qJ (mv rfl) rfl), nW rfl rfl rfl rfl rfl rfl rfl rfl (by exact qJ (xp rfl rfl rfl) rfl), nW rfl rfl rfl rfl rfl rfl rfl rfl (by exact qJ (v7 rfl rfl Tryd.runUnderlying24 Tryd.sizeOf36 (Yo.rd (i := 3) rfl) (fun _ => rfl) rfl YL) rfl), nW rfl rfl rfl rfl rfl rfl rfl rfl (by exact qJ (vi (sz := 2) rfl (Yo.rd (i := 3) rfl) (fun _ => rfl) rfl YL Tryd.runUnderlying36 rfl Tryd.sizeOf9 rfl) rfl), nW rfl rfl rfl rfl rfl rfl rfl rfl (by exact qJ (Zy 0 rfl (Yo.rd (i := 3) rfl) (fun _ => rfl) YL rfl Tryd.isAgg9) rfl), nW rfl rfl rfl rfl rfl rfl rfl rfl (by exact qJ (mv rfl) rfl), nW rfl rfl rfl rfl rfl rfl rfl rfl (by exact qJ (Qh rfl Tryd.runUnderlying9 QX (u3 rfl) Y0) rfl), nW rfl rfl rfl rfl rfl rfl rfl rfl (by exact qJ (vG rfl rfl rfl) rfl), nW rfl rfl rfl rfl rfl rfl rfl rfl (by exact qJ (pk rfl rfl rfl) rfl), nQ rfl (by exact qJ (pk rfl rfl rfl) rfl), trivial⟩) fun a w hS => ?_
           replace hS := hS.env2 (e' := [(0, qi X5), (5, .int .u32 X3), (6, .int .i64 X6), (7, qE Ye 0), (8, .slice Yc X4.length Yf), (9, .int .i64 X9), (10, .int .i64 X7), (11, qi X8), (86, .bool (!Op.bytesLess (rd X4 (qD (X7 - (1 : Int)))).Tag_ (sub X8 (0 : Int) (4 : Int))))]) ⟨rfl, rfl, rfl, rfl, rfl, rfl, rfl, rfl, rfl, trivial⟩
           refine qd ?_
           exact YG _ _ ⟨(!Op.bytesLess (rd X4 (qD (X7 - (1 : Int)))).Tag_ (sub X8 (0 : Int) (4 : Int))), hS.to [0, 1, 2, 3] (by kernel_rfl) ⟨rfl, rfl, rfl, rfl, rfl, rfl, rfl, rfl, rfl, trivial⟩, hM⟩
          ·obtain ⟨hcl, hmust, hav2, hA⟩ := dn (vals' := [some (qi X8), some (qi (sub X8 (0 : Int) (4 : Int))), some (.bool true), some (.bool false), some (.bool false), some (.int .i64 X7), some (.bool false), some (.bool false), some (undef), some (undef), some (undef), some (undef), some (undef), some (undef), some (undef), some (undef), some (undef), some (.bool false), some (.bool false)]) 2 [(1, 2), (0, 1)] hA hcl hav hm hpre hk rfl rfl rfl rfl rfl rfl rfl
           clear hm hav
           refine xu hA hst ho hcl hmust [3, 4, 5, 6, 7, 8, 9, 10, 11, 12, 13, 14, 15, 16, 17, 18] rfl rfl rfl (by exact ⟨nQ rfl (by exact qJ (un rfl rfl) rfl), nM rfl, nW rfl rfl rfl rfl rfl rfl rfl rfl (by exact qJ (mv rfl) rfl), nW rfl rfl rfl rfl rfl rfl rfl rfl (by exact qJ (xp rfl rfl rfl) (congrArg Value.bool YK)), nW rfl rfl rfl rfl rfl rfl rfl rfl (by exact qJ (mv rfl) rfl), nS rfl rfl rfl rfl rfl rfl rfl rfl rfl, nS rfl rfl rfl rfl rfl rfl rfl rfl rfl, nS rfl rfl rfl rfl rfl rfl rfl rfl rfl, nS rfl rfl rfl rfl rfl rfl rfl rfl rfl, nS rfl rfl rfl rfl rfl rfl rfl rfl rfl, nS rfl rfl rfl rfl rfl rfl rfl rfl rfl, nS rfl rfl rfl rfl rfl rfl rfl rfl rfl, nS rfl rfl rfl rfl rfl rfl rfl rfl rfl, nS rfl rfl rfl rfl rfl rfl rfl rfl rfl, nW rfl rfl rfl rfl rfl rfl rfl rfl (by exact qJ (pk rfl rfl rfl) rfl), nQ rfl (by exact qJ (pk rfl rfl rfl) rfl), trivial⟩) fun a w hS => ?_
           replace hS := hS.env2 (e' := [(0, qi X5), (5, .int .u32 X3), (6, .int .i64 X6), (7, qE Ye 0), (8, .slice Yc X4.length Yf), (9, .int .i64 X9), (10, .int .i64 X7), (11, qi X8), (86, .bool false)]) ⟨rfl, rfl, rfl, rfl, rfl, rfl, rfl, rfl, rfl, trivial⟩
           refine qd ?_
           exact YG _ _ ⟨false, hS.to [0, 1, 2, 3] (by kernel_rfl) ⟨rfl, rfl, rfl, rfl, rfl, rfl, rfl, rfl, rfl, trivial⟩, hM⟩
         ·subst YJ
          obtain ⟨hcl, hmust, hav2, hA⟩ := dn (vals' := [some (qi X8), some (qi (sub X8 (0 : Int) (4 : Int))), some (.bool false), some (.bool true), some (.bool true), some (undef), some (undef), some (undef), some (undef), some (undef), some (undef), some (undef), some (undef), some (undef), some (undef), some (undef), some (undef), some (undef), some (.bool true)]) 2 [(1, 2), (0, 1)] hA hcl hav hm hpre hk rfl rfl rfl rfl rfl rfl rfl
          clear hm hav
          refine xu hA hst ho hcl hmust [3, 4, 5, 6, 7, 8, 9, 10, 11, 12, 13, 14, 15, 16, 17, 18] rfl rfl rfl (by exact ⟨nQ rfl (by exact qJ (un rfl rfl) rfl), nM rfl, nS rfl rfl rfl rfl rfl rfl rfl rfl rfl, nS rfl rfl rfl rfl rfl rfl rfl rfl rfl, nS rfl rfl rfl rfl rfl rfl rfl rfl rfl, nS rfl rfl rfl rfl rfl rfl rfl rfl rfl, nS rfl rfl rfl rfl rfl rfl rfl rfl rfl, nS rfl rfl rfl rfl rfl rfl rfl rfl rfl, nS rfl rfl rfl rfl rfl rfl rfl rfl rfl, nS rfl rfl rfl rfl rfl rfl rfl rfl rfl, nS rfl rfl rfl rfl rfl rfl rfl rfl rfl, nS rfl rfl rfl rfl rfl rfl rfl rfl rfl, nS rfl rfl rfl rfl rfl rfl rfl rfl rfl, nS rfl rfl rfl rfl rfl rfl rfl rfl rfl, nS rfl rfl rfl rfl rfl rfl rfl rfl rfl, nQ rfl (by exact qJ (pk rfl rfl rfl) rfl), trivial⟩) fun a w hS => ?_
          replace hS := hS.env2 (e' := [(0, qi X5), (5, .int .u32 X3), (6, .int .i64 X6), (7, qE Ye 0), (8, .slice Yc X4.length Yf), (9, .int .i64 X9), (10, .int .i64 X7), (11, qi X8), (86, .bool true)]) ⟨rfl, rfl, rfl, rfl, rfl, rfl, rfl, rfl, rfl, trivial⟩
          refine qd ?_
          exact YG _ _ ⟨true, hS.to [0, 1, 2, 3] (by kernel_rfl) ⟨rfl, rfl, rfl, rfl, rfl, rfl, rfl, rfl, rfl, trivial⟩, hM⟩
        ·intro a w hI
         obtain ⟨Y2, hS, hM⟩ := hI
         rw [qc.j3] at hM
         refine qF hS rfl hM (fun JH hM => ?_) (fun JH hM => ?_)
         ·refine wp_seq ?_
          refine zC <| sA hS rfl fun hS => sA hS rfl fun hS => ?_
          obtain ⟨Va, Jt, hS⟩ := hS.nilV 36 qb.cells 2
          refine sA hS rfl fun hS => qq <| wp_ret <| qj (zl (qj (qj (zl (qj ?_)))))
          exact qP (rs := [2, 3, 4]) hS rfl rfl (hret (0 : Int) none (0) ([] : List qb) Va (3 : Int) _ (qG hM) Jt (hS.st.pick [0] (by kernel_rfl)))
         ·refine wp_skip ?_
          refine qd <| qh <| sM hS rfl fun hS => sM hS rfl fun hS => qn hS rfl Tryd.call36 (yG hG K X5 X8 (hS.st.part 0 [0, 1, 2, 3] (by kernel_rfl)) (qg hM) (fun Yb Ya Yx Yw Vs w hM  hst => ql hS.ev hst.appF rfl fun hS => ?_))
          replace hS : Ss _ _ _ H [Yk, Yi, Yj, Yd] F _ _ := hS
          refine sM hS rfl fun hS => sO hS (ex rfl rfl) rfl fun hS => sO hS (ex rfl rfl) rfl fun hS => sO hS (ex rfl rfl) rfl fun hS => vn ([qi ([] : List UInt8), qi ([] : List UInt8)]) hS Tryd.zeroValue36 rfl rfl fun w JX VF Ji hS => vn ([.int .i64 (0 : Int), .int .i64 (0 : Int)]) hS Tryd.zeroValue71 rfl rfl fun w VD VG Jj hS => y5 1 ([qi Yb, qi Ya]) ([qi Yb, qi Ya]) hS rfl rfl Ji rfl rfl Tryd.sizeOf36 (by simp [Value.oneCell']) (Nat.le_of_ble_eq_true rfl) rfl fun w YC YF hS => y5 0 ([.int .i64 Yx, .int .i64 Yw]) ([.int .i64 Yx, .int .i64 Yw]) hS rfl rfl Jj rfl rfl Tryd.sizeOf71 (by simp [Value.oneCell']) (Nat.le_of_ble_eq_true rfl) rfl fun w Vb Yt hS => sA hS rfl fun hS => qq <| wp_seq <| qh <| sM hS rfl fun hS => sB hS rfl fun hS => qq <| qF hS rfl hM (fun JI hM => ?_) (fun JI hM => ?_)
          ·refine wp_seq ?_
           refine zC <| sM hS rfl fun hS => sA hS rfl fun hS => sA hS rfl fun hS => ?_
           obtain ⟨Vc, Ju, hS⟩ := hS.nilV 36 qb.cells 2
           refine sA hS rfl fun hS => qq <| wp_ret <| qj (zl (qj (qj (zl (qj ?_)))))
           exact qP (rs := [2, 3, 4]) hS rfl rfl (hret (0 : Int) none (0) ([] : List qb) Vc Vs _ (qG hM) Ju (hS.st.pick [0] (by kernel_rfl)))
          ·refine wp_skip ?_
           refine qd <| wp_seq <| qh <| sO hS (z2 rfl Tryd.runUnderlying71 rfl Tryd.sizeOf3 rfl) rfl fun hS => sO hS (xh 0 rfl Yt rfl rfl Tryd.isAgg3) rfl fun hS => sO hS (z2 rfl Tryd.runUnderlying71 rfl Tryd.sizeOf3 rfl) rfl fun hS => sO hS (xh 0 rfl Yt rfl rfl Tryd.isAgg3) rfl fun hS => sB hS rfl fun hS => sM hS rfl fun hS => xP (fun a w => ∃ (YM : Option Addr) (YP : Nat) (Yq : (List qe)) (Yl : qk) (YN : Option Addr) (YQ : Nat) (YE : (List Int)) (Ym : qk) (Yn : qk) (Y3 : Bool), Ss 133 [] [(0, qi X5), (5, .int .u32 X3), (6, .int .i64 X6), (7, qE Ye 0), (8, .slice Yc X4.length Yf), (9, .int .i64 X9), (10, .int .i64 X7), (11, qi X8), (12, qE JX 0), (111, .bool Y3)] H [Yn, Yl, Ym, Yd, YC] F a w ∧ (zX 71 qe.cells 2 YM Yq YP Yl) ∧ (zX 3 (ci .i64) 1 YN YE YQ Ym) ∧ (ye Yn Ye ([.slice YM Yq.length YP, .slice YN YE.length YQ]) 68) ∧ (qc.j4 K (qc.l2 K X5 X3 X6 YU) X4 X9 X7 X8 Yb Ya Yq YE Y3).wp kr kp) 9 (fun VA YW => ?_) ?_
           ·refine uC (b := (decide (Yx < Yw))) hM (fun Yp hM => ?_) (fun Yp hM => ?_)
            ·replace hS := hS.re 101 (v := .bool true) rfl (congrArg Value.bool Yp)
             replace hS := hS.re 102 (v := .bool true) rfl (congrArg Value.bool Yp)
             refine qA hS rfl rfl rfl rfl (mv rfl) rfl fun a w hS => qA hS rfl rfl rfl rfl (z2 rfl Tryd.runUnderlying71 rfl Tryd.sizeOf3 rfl) rfl fun a w hS => qA hS rfl rfl rfl rfl (xh 0 rfl Yt rfl rfl Tryd.isAgg3) rfl fun a w hS => qA hS rfl rfl rfl rfl (z2 rfl Tryd.runUnderlying71 rfl Tryd.sizeOf3 rfl) rfl fun a w hS => qA hS rfl rfl rfl rfl (xh 0 rfl Yt rfl rfl Tryd.isAgg3) rfl fun a w hS => qA hS rfl rfl rfl rfl (mv rfl) rfl fun a w hS => xF hS rfl rfl rfl rfl <| qn hS rfl Tryd.call34 (xz hG K (q5.mk Yg Yr) Yx Yw X7 Ye Yk Yy YA Yi Yz YB Yj YV YX YY (hS.st.part 3 [2, 3, 4, 0, 1, 5] (by kernel_rfl)) (qg hM) (fun Vt JU J0 JQ Jb JV J1 Vu Jc Jd w hM Vk Vl Vm hst => ql hS.ev hst.appF rfl fun hS => ?_))
             replace hS : Ss _ _ _ H [Jd, Jb, Jc, Vb, YC, Yd] F _ _ := hS
             refine qA hS rfl rfl rfl rfl (xp rfl rfl rfl) rfl fun a w hS => sO hS (pk rfl rfl rfl) rfl fun hS => q6 <| qd ?_
             exact YW _ _ ⟨JU, J0, JQ, Jb, JV, J1, Vu, Jc, Jd, (Vt != (0 : Int)), hS.to [0, 1, 2, 5, 4] (by kernel_rfl) ⟨rfl, rfl, rfl, rfl, rfl, rfl, rfl, rfl, rfl, rfl, trivial⟩, Vk, Vl, Vm, hM⟩
            ·replace hS := hS.re 101 (v := .bool false) rfl (congrArg Value.bool Yp)
             replace hS := hS.re 102 (v := .bool false) rfl (congrArg Value.bool Yp)
             refine jJ 8 hS rfl fun a w hS => sO hS (pk rfl rfl rfl) rfl fun hS => q6 <| qd ?_
             exact YW _ _ ⟨Yy, YA, Yg, Yi, Yz, YB, Yr, Yj, Yk, false, hS.to [2, 3, 4, 5, 1] (by kernel_rfl) ⟨rfl, rfl, rfl, rfl, rfl, rfl, rfl, rfl, rfl, rfl, trivial⟩, YX, YY, YV, hM⟩
           ·intro a w hI
            obtain ⟨YM, YP, Yq, Yl, YN, YQ, YE, Ym, Yn, Y3, hS, Jv, Jw, Jk, hM⟩ := hI
            rw [qc.j4] at hM
            refine qq <| qF hS rfl hM (fun JK hM => ?_) (fun JK hM => ?_)
            ·refine wp_seq ?_
             refine zC <| sA hS rfl fun hS => sA hS rfl fun hS => ?_
             obtain ⟨Vd, Jx, hS⟩ := hS.nilV 36 qb.cells 2
             refine sA hS rfl fun hS => qq <| wp_ret <| qj (zl (qj (qj (zl (qj ?_)))))
             exact qP (rs := [2, 3, 4]) hS rfl rfl (hret (0 : Int) none (0) ([] : List qb) Vd (5 : Int) _ (qG hM) Jx (hS.st.pick [0] (by kernel_rfl)))
            ·refine wp_skip ?_
             refine qd <| wp_seq <| qh <| sO hS (z2 rfl Tryd.runUnderlying36 rfl Tryd.sizeOf9 rfl) rfl fun hS => sO hS (xh 4 rfl YF rfl rfl Tryd.isAgg9) rfl fun hS => qn hS rfl Tryd.call17 (yF hG K Ya (hS.st.part 0 [0, 1, 2, 3, 4] (by kernel_rfl)) (qg hM) (fun VJ w hM  hst => ql hS.ev hst.appF rfl fun hS => ?_))
             replace hS : Ss _ _ _ H [Yn, Yl, Ym, Yd, YC] F _ _ := hS
             refine sO hS (yB rfl Tryd.runUnderlying23 Tryd.runUnderlying3) rfl fun hS => sM hS rfl fun hS => qn hS rfl Tryd.call33 (zy hG K X8 (4 : Int) (4 : Int) (hS.st.part 0 [0, 1, 2, 3, 4] (by kernel_rfl)) (qg hM) (fun VK w hM  hst => ql hS.ev hst.appF rfl fun hS => ?_))
             replace hS : Ss _ _ _ H [Yn, Yl, Ym, Yd, YC] F _ _ := hS
             refine sB hS rfl fun hS => qq <| qF hS rfl hM (fun JL hM => ?_) (fun JL hM => ?_)
             ·refine wp_seq ?_
              refine zC <| sA hS rfl fun hS => sA hS rfl fun hS => ?_
              obtain ⟨Ve, Jy, hS⟩ := hS.nilV 36 qb.cells 2
              refine sA hS rfl fun hS => qq <| wp_ret <| qj (zl (qj (qj (zl (qj ?_)))))
              exact qP (rs := [2, 3, 4]) hS rfl rfl (hret (0 : Int) none (0) ([] : List qb) Ve (4 : Int) _ (qG hM) Jy (hS.st.pick [0] (by kernel_rfl)))
             ·refine wp_skip ?_
              refine qd <| qh <| sM hS rfl fun hS => sO hS (z2 rfl Tryd.runUnderlying36 rfl Tryd.sizeOf9 rfl) rfl fun hS => sO hS (xh 4 rfl YF rfl rfl Tryd.isAgg9) rfl fun hS => sO hS (xd rfl Tryd.runUnderlying9) rfl fun hS => qn hS rfl Tryd.call37 (xO hG K (Ya.length : Int) (hS.st.part 0 [0, 1, 2, 3, 4] (by kernel_rfl)) (qg hM) (fun Vv w hM  hst => ql hS.ev hst.appF rfl fun hS => ?_))
              replace hS : Ss _ _ _ H [Yn, Yl, Ym, Yd, YC] F _ _ := hS
              refine sB hS rfl fun hS => zk (v := Value.int .i64) (x0 := (qD (X9 + Vv))) hS (z1 rfl) rfl fun Y5 a w hz hS => ?_
              have hM := qO hz hM; clear hz
              refine qq <| zC <| sM hS rfl fun hS => sO hS (x3 4 rfl YF rfl ([qi Yb, qi Ya]) rfl rfl Tryd.isAgg36 Tryd.sizeOf36) rfl fun hS => QG (g := qb.cells) ([(qb.mk Yb Ya)] : List qb) [.agg ⟨[qi Yb, qi Ya]⟩] hS Tryd.runUnderlying24 Tryd.sizeOf36 X.el36 rfl rfl rfl (by simp [Value.cells]) rfl rfl rfl rfl rfl fun w Vx VE VH Jz hS => ?_
              obtain ⟨JO, hM⟩ := qM hM
              refine Zn (ys := ([(qb.mk Yb Ya)] : List qb)) 4 hS rfl rfl Yo rfl (Jz.rd (i := 0) rfl) Tryd.runUnderlying24 Tryd.runUnderlying24 X.el36 (fun _ => rfl) rfl u7 JO rfl fun JR w JW J2 Vf hz JA hS => ?_
              have hM := qO hz hM; clear hz
              refine sA hS rfl fun hS => q6 <| z9 (qd ?_)
              refine zC <| sM hS rfl fun hS => sB hS rfl fun hS => zk (v := Value.int .i64) (x0 := (qD (X7 + (1 : Int)))) hS (z1 rfl) rfl fun Vn a w hz hS => ?_
              have hM := qO hz hM; clear hz
              refine q6 <| qd ?_
              exact Jl _ _ ⟨YM, YP, Yq, Yl, YN, YQ, YE, Ym, Yn, JW, J2, JR, Vf, Y5, Vn, hS.to [1, 2, 3, 4] (by kernel_rfl) ⟨rfl, rfl, rfl, rfl, rfl, rfl, rfl, trivial⟩, Jv, Jw, Jk, JA, hM⟩
       ·refine wp_exit ?_
        refine qV (qV (zn (qd ?_)))
        exact Jm _ _ ⟨Yc, Yf, X4, Yd, X9, hS.to [3] (by kernel_rfl) ⟨rfl, rfl, rfl, trivial⟩, Yo, hM⟩
     ·intro a w hI
      obtain ⟨YO, YR, Yh, YT, Ys, hS, JB, hM⟩ := hI
      rw [qc.j5] at hM
      refine wp_seq <| qh <| sM hS rfl fun hS => sB hS rfl fun hS => qq <| qF hS rfl hM (fun JM hM => ?_) (fun JM hM => ?_)
      ·refine wp_seq ?_
       refine zC <| sA hS rfl fun hS => sA hS rfl fun hS => ?_
       obtain ⟨Vg, JC, hS⟩ := hS.nilV 36 qb.cells 2
       refine sA hS rfl fun hS => qq <| wp_ret <| qj ?_
       exact qP (rs := [2, 3, 4]) hS rfl rfl (hret (0 : Int) none (0) ([] : List qb) Vg (3 : Int) _ (qG hM) JC (hS.st.pick [0] (by kernel_rfl)))
      ·refine wp_skip ?_
       refine qd <| qh <| sM hS rfl fun hS => sM hS rfl fun hS => sA hS rfl fun hS => sA hS rfl fun hS => sA hS rfl fun hS => qq <| wp_ret ?_
       exact qP (rs := [2, 3, 4]) hS rfl rfl (hret X3 YO YR Yh YT (0 : Int) _ (qG hM) JB (hS.st.pick [0] (by kernel_rfl)))
theorem yc {H : zv} {F : List qk} {w : World} {R : Ending → World → Prop} {kr : Bool → Prop} {kp : Value → Prop} (hG : Gl H) (K : Nat) (s1 : List UInt8)
    (hS : St w H [] F) (hm : (qs.m K s1).wp kr kp)
    (hret : ∀ (Yh : Bool) (w : World), kr Yh → St w H [] F → R (.returned (.bool Yh)) w) :
    Calls Tryd.prog 3 ⟨[qi s1]⟩ w R := by
 refine enter Tryd.func3 rfl Tryd.ntmps3 rfl hS fun a w hS => ?_
 have hM := hm; clear hm
 rw [qs.m] at hM
 refine qh <| sA hS rfl fun hS => qq <| wp_seq <| qh <| sM hS rfl fun hS => sO hS (xd rfl Tryd.runUnderlying9) rfl fun hS => sB hS rfl fun hS => qq <| qF hS rfl hM (fun hb2 hM => ?_) (fun hb2 hM => ?_)
 ·refine wp_seq ?_
  refine zC <| qn hS rfl Tryd.call9 (xS hG K  (hS.st.part 0 [] (by kernel_rfl)) (qg hM) (fun Ym w hM  hst => ql hS.ev hst.appF rfl fun hS => ?_))
  replace hS : Ss _ _ _ H [] F _ _ := hS
  refine sA hS rfl fun hS => qq <| wp_ret <| qj ?_
  exact qP (rs := [2]) hS rfl rfl (hret Ym _ (qG hM) (hS.st.pick [] (by kernel_rfl)))
 ·refine wp_skip ?_
  refine qd <| qh <| sM hS rfl fun hS => qn hS rfl Tryd.call10 (yJ hG K s1 (hS.st.part 0 [] (by kernel_rfl)) (qg hM) (fun Yd Yi Yk Yn X7 Ye w hM Yb hst => ql hS.ev hst.appF rfl fun hS => ?_))
  replace hS : Ss _ _ _ H [X7] F _ _ := hS
  refine sM hS rfl fun hS => sO hS (ex rfl rfl) rfl fun hS => sO hS (ex rfl rfl) rfl fun hS => sO hS (ex rfl rfl) rfl fun hS => sA hS rfl fun hS => sA hS rfl fun hS => sA hS rfl fun hS => qq <| qh <| sM hS rfl fun hS => qn hS rfl Tryd.call11 (yV hG K s1 (hS.st.part 0 [0] (by kernel_rfl)) (qg hM) (fun Yf Yj Yl Yo Ya Yg w hM Yc hst => ql hS.ev hst.appF rfl fun hS => ?_))
  replace hS : Ss _ _ _ H [Ya, X7] F _ _ := hS
  refine sM hS rfl fun hS => sO hS (ex rfl rfl) rfl fun hS => sO hS (ex rfl rfl) rfl fun hS => sO hS (ex rfl rfl) rfl fun hS => sA hS rfl fun hS => sA hS rfl fun hS => sA hS rfl fun hS => qq <| qh <| sM hS rfl fun hS => sM hS rfl fun hS => sB hS rfl fun hS => sM hS rfl fun hS => z4 3 true 28 (b := (Yd == Yf)) (r := (Ye == Yg)) hS rfl rfl rfl rfl rfl rfl rfl (fun hb a w hS K hK => ?_) rfl fun a w hS => ?_
  ·refine qA hS rfl rfl rfl hb (mv rfl) rfl fun a w hS => ?_
   refine qA hS rfl rfl rfl hb (mv rfl) rfl fun a w hS => qA hS rfl rfl rfl hb (xp rfl rfl rfl) rfl fun a w hS => ?_
   exact q6 (hK _ _ (hS.up 3 rfl rfl))
  refine sM hS rfl fun hS => xP (fun a w => ∃ (X5 : Bool), Ss 41 [] [(37, .bool X5)] H [] F a w ∧ (qs.j1 K X5).wp kr kp) 4 (fun Yr X8 => ?_) ?_
  ·refine uC (b := ((Yd == Yf) && (Ye == Yg))) hM (fun X3 hM => ?_) (fun X3 hM => ?_)
   ·replace hS := hS.re 32 (v := .bool true) rfl (congrArg Value.bool X3)
    replace hS := hS.re 33 (v := .bool true) rfl (congrArg Value.bool X3)
    refine qA hS rfl rfl rfl rfl (mv rfl) rfl fun a w hS => qA hS rfl rfl rfl rfl (mv rfl) rfl fun a w hS => xF hS rfl rfl rfl rfl <| qn hS rfl Tryd.call12 (xU hG K Yn Yo Yi Yk Yj Yl (Yb.rdF (i := 1) rfl) (Yb.cap (fun _ => rfl) rfl) (Yc.rdF (i := 0) rfl) (Yc.cap (fun _ => rfl) rfl) (hS.st.part 0 [0, 1] (by kernel_rfl)) (qg hM) (fun Yp w hM  hst => ql hS.ev hst.appF rfl fun hS => ?_))
    replace hS : Ss _ _ _ H [Ya, X7] F _ _ := hS
    refine sO hS (pk rfl rfl rfl) rfl fun hS => q6 <| qd ?_
    exact X8 _ _ ⟨Yp, hS.to [] (by kernel_rfl) ⟨rfl, trivial⟩, hM⟩
   ·replace hS := hS.re 32 (v := .bool false) rfl (congrArg Value.bool X3)
    replace hS := hS.re 33 (v := .bool false) rfl (congrArg Value.bool X3)
    refine jJ 3 hS rfl fun a w hS => sO hS (pk rfl rfl rfl) rfl fun hS => q6 <| qd ?_
    exact X8 _ _ ⟨false, hS.to [] (by kernel_rfl) ⟨rfl, trivial⟩, hM⟩
  ·intro a w hI
   obtain ⟨X5, hS, hM⟩ := hI
   rw [qs.j1] at hM
   refine sM hS rfl fun hS => xP (fun a w => ∃ (X6 : Bool), Ss 41 [] [(40, .bool X6)] H [] F a w ∧ (qs.j2 K X6).wp kr kp) 2 (fun Ys X9 => ?_) ?_
   ·refine uC (b := X5) hM (fun X4 hM => ?_) (fun X4 hM => ?_)
    ·replace hS := hS.re 37 (v := .bool true) rfl (congrArg Value.bool X4)
     replace hS := hS.re 38 (v := .bool true) rfl (congrArg Value.bool X4)
     refine xF hS rfl rfl rfl rfl <| qn hS rfl Tryd.call9 (xS hG K  (hS.st.part 0 [] (by kernel_rfl)) (qg hM) (fun Yq w hM  hst => ql hS.ev hst.appF rfl fun hS => ?_))
     replace hS : Ss _ _ _ H [] F _ _ := hS
     refine sO hS (pk rfl rfl rfl) rfl fun hS => q6 <| qd ?_
     exact X9 _ _ ⟨Yq, hS.to [] (by kernel_rfl) ⟨rfl, trivial⟩, hM⟩
    ·replace hS := hS.re 37 (v := .bool false) rfl (congrArg Value.bool X4)
     replace hS := hS.re 38 (v := .bool false) rfl (congrArg Value.bool X4)
     refine jJ 1 hS rfl fun a w hS => sO hS (pk rfl rfl rfl) rfl fun hS => q6 <| qd ?_
     exact X9 _ _ ⟨false, hS.to [] (by kernel_rfl) ⟨rfl, trivial⟩, hM⟩
   ·intro a w hI
    obtain ⟨X6, hS, hM⟩ := hI
    rw [qs.j2] at hM
    refine sA hS rfl fun hS => qq <| wp_ret ?_
    exact qP (rs := [2]) hS rfl rfl (hret X6 _ (qG hM) (hS.st.pick [] (by kernel_rfl)))
end Go.TrydS

