/- Printed by a program of mine: each Go function answers what its model answers; conditions: what each theorem asks of memory. -/
import Derived.Test.YtojcnkhcdcegkaaDoorP1xjmkmk
set_option linter.unusedVariables false
set_option linter.unusedSimpArgs false
set_option maxRecDepth 100000
namespace Go.TrydS
open Go Go.Sl Go.Mo Go.Proofs
attribute [local irreducible] qN.wp
theorem vB {H : xT} {F : List qk} {w : World} {R : Ending → World → Prop} {kr : ((List UInt8) × Int × Int) → Prop} {kp : Value → Prop} (hG : Gl H) (K : Nat) (s4 : List UInt8) (limit5 : Int)
    (hS : St w H [] F) (hm : (jm.m K s4 limit5).wp kr kp)
    (hret : ∀ (MV : List UInt8) (MW : Int) (MX : Int) (w : World), kr (MV, MW, MX) → St w H [] F → R (.returned (.tuple ⟨[xi MV, .int .i64 MW, .int .i64 MX]⟩)) w) :
    Calls Tryd.prog 11 ⟨[xi s4, .int .i64 limit5]⟩ w R := by
 refine enter Tryd.func11 rfl Tryd.ntmps11 rfl hS fun a w hS => ?_
 have hM := hm; clear hm
 rw [jm.m] at hM
 refine qm <| sA hS rfl fun hS => sA hS rfl fun hS => sA hS rfl fun hS => qA <| wp_seq <| qm <| sM hS rfl fun hS => sB hS rfl fun hS => sM hS rfl fun hS => yJ 2 false 15 (b := (decide (limit5 < (0 : Int)))) (r := (decide (limit5 > (1073741824 : Int)))) hS rfl rfl rfl rfl rfl rfl rfl (fun hb a w hS K hK => ?_) rfl fun a w hS => ?_
 ·refine zW hS rfl rfl rfl hb (mv rfl) rfl fun a w hS => ?_
  refine zW hS rfl rfl rfl hb (js rfl rfl rfl) rfl fun a w hS => ?_
  exact zn (hK _ _ (hS.up 2 rfl rfl))
 refine qA <| qF hS rfl hM (fun hb6 hM => ?_) (fun hb6 hM => ?_)
 ·refine wp_seq ?_
  refine zP <| sA hS rfl fun hS => sA hS rfl fun hS => sA hS rfl fun hS => qA <| wp_ret <| zl ?_
  exact zD (rs := [4, 5, 6]) hS rfl rfl (hret ([] : List UInt8) (0 : Int) (1 : Int) _ (q8 hM) (hS.st.pick [] (by kernel_rfl)))
 ·refine wp_skip ?_
  refine qe <| qm <| sA hS rfl fun hS => qA <| qm <| sM hS rfl fun hS => sM hS rfl fun hS => qJ hS rfl Tryd.call20 (V4 hG K s4 (hS.st.part 0 [] (by kernel_rfl)) (qt hM) (fun  w hM  hst => qz hS.ev hst.appF rfl fun hS => ?_))
  replace hS : Ss _ _ _ H [] F _ _ := hS
  refine ve hS rfl rfl Tryd.call19 (jS hG K (yd.mk s4 (0 : Int)) (0 : Int) (2 : Int) (hS.st.part 0 [] (by kernel_rfl)) (qt hM) (fun MS Nd w hM  hst => qz hS.ev hst.appF rfl fun hS => ?_))
  replace hS : Ss _ _ _ H [] F _ _ := hS
  refine sM hS rfl fun hS => sO hS (ex rfl rfl) rfl fun hS => sO hS (ex rfl rfl) rfl fun hS => sA hS rfl fun hS => sA hS rfl fun hS => qA <| wp_seq <| qm <| sM hS rfl fun hS => sB hS rfl fun hS => qA <| qF hS rfl hM (fun M8 hM => ?_) (fun M8 hM => ?_)
  ·refine wp_seq ?_
   refine zP <| sM hS rfl fun hS => sA hS rfl fun hS => sA hS rfl fun hS => sA hS rfl fun hS => qA <| wp_ret <| zl ?_
   exact zD (rs := [4, 5, 6]) hS rfl rfl (hret ([] : List UInt8) (0 : Int) Nd _ (q8 hM) (hS.st.pick [] (by kernel_rfl)))
  ·refine wp_skip ?_
   refine qe <| wp_seq <| qm <| sM hS rfl fun hS => sO hS (shr rfl rfl rfl) rfl fun hS => sB hS rfl fun hS => sB hS rfl fun hS => sM hS rfl fun hS => yJ 3 false 33 (b := ((xE .u64 (xa .u64 MS (8 : Int)) (15 : Int)) != (8 : Int))) (r := (decide ((xa .u64 MS (12 : Int)) > (7 : Int)))) hS rfl rfl rfl rfl rfl rfl rfl (fun hb a w hS K hK => ?_) rfl fun a w hS => ?_
   ·refine zW hS rfl rfl rfl hb (mv rfl) rfl fun a w hS => ?_
    refine zW hS rfl rfl rfl hb (shr rfl rfl rfl) rfl fun a w hS => zW hS rfl rfl rfl hb (js rfl rfl rfl) rfl fun a w hS => ?_
    exact zn (hK _ _ (hS.up 3 rfl rfl))
   refine sM hS rfl fun hS => yJ 3 false 38 (b := (((xE .u64 (xa .u64 MS (8 : Int)) (15 : Int)) != (8 : Int)) || (decide ((xa .u64 MS (12 : Int)) > (7 : Int))))) (r := ((vS MS (31 : Int)) != (0 : Int))) hS rfl rfl rfl rfl rfl rfl rfl (fun hb a w hS K hK => ?_) rfl fun a w hS => ?_
   ·refine zW hS rfl rfl rfl hb (mv rfl) rfl fun a w hS => ?_
    refine zW hS rfl rfl rfl hb (rem rfl rfl rfl) rfl fun a w hS => zW hS rfl rfl rfl hb (js rfl rfl rfl) rfl fun a w hS => ?_
    exact zn (hK _ _ (hS.up 3 rfl rfl))
   refine sM hS rfl fun hS => yJ 3 false 43 (b := ((((xE .u64 (xa .u64 MS (8 : Int)) (15 : Int)) != (8 : Int)) || (decide ((xa .u64 MS (12 : Int)) > (7 : Int)))) || ((vS MS (31 : Int)) != (0 : Int)))) (r := ((xE .u64 MS (32 : Int)) != (0 : Int))) hS rfl rfl rfl rfl rfl rfl rfl (fun hb a w hS K hK => ?_) rfl fun a w hS => ?_
   ·refine zW hS rfl rfl rfl hb (mv rfl) rfl fun a w hS => ?_
    refine zW hS rfl rfl rfl hb (js rfl rfl rfl) rfl fun a w hS => zW hS rfl rfl rfl hb (js rfl rfl rfl) rfl fun a w hS => ?_
    exact zn (hK _ _ (hS.up 3 rfl rfl))
   refine qA <| qF hS rfl hM (fun M9 hM => ?_) (fun M9 hM => ?_)
   ·refine wp_seq ?_
    refine zP <| sA hS rfl fun hS => sA hS rfl fun hS => sA hS rfl fun hS => qA <| wp_ret <| zl ?_
    exact zD (rs := [4, 5, 6]) hS rfl rfl (hret ([] : List UInt8) (0 : Int) (3 : Int) _ (q8 hM) (hS.st.pick [] (by kernel_rfl)))
   ·refine wp_skip ?_
    refine qe <| qm <| sM hS rfl fun hS => ?_
    obtain ⟨Na, hM⟩ := qK hM
    refine sO hS (Lf rfl Tryd.runUnderlying9 (G2 rfl) GV Na) rfl fun hS => sM hS rfl fun hS => qJ hS rfl Tryd.call21 (Zn hG K (sub s4 (2 : Int) (s4.length : Int)) limit5 (hS.st.part 0 [] (by kernel_rfl)) (qt hM) (fun MT M4 M5 w hM  hst => qz hS.ev hst.appF rfl fun hS => ?_))
    replace hS : Ss _ _ _ H [] F _ _ := hS
    refine sM hS rfl fun hS => sO hS (ex rfl rfl) rfl fun hS => sO hS (ex rfl rfl) rfl fun hS => sO hS (ex rfl rfl) rfl fun hS => sA hS rfl fun hS => sA hS rfl fun hS => sA hS rfl fun hS => qA <| wp_seq <| qm <| sM hS rfl fun hS => sB hS rfl fun hS => qA <| qF hS rfl hM (fun MY hM => ?_) (fun MY hM => ?_)
    ·refine wp_seq ?_
     refine zP <| sM hS rfl fun hS => sA hS rfl fun hS => sA hS rfl fun hS => sA hS rfl fun hS => qA <| wp_ret <| zl ?_
     exact zD (rs := [4, 5, 6]) hS rfl rfl (hret ([] : List UInt8) (0 : Int) M5 _ (q8 hM) (hS.st.pick [] (by kernel_rfl)))
    ·refine wp_skip ?_
     refine qe <| qm <| sM hS rfl fun hS => sB hS rfl fun hS => zG (v := Value.int .i64) (x0 := (qh (M4 + (2 : Int)))) hS (xD rfl) rfl fun MR a w hz hS => ?_
     have hM := qB hz hM; clear hz
     refine qA <| qm <| sM hS rfl fun hS => sM hS rfl fun hS => qJ hS rfl Tryd.call20 (V4 hG K s4 (hS.st.part 0 [] (by kernel_rfl)) (qt hM) (fun  w hM  hst => qz hS.ev hst.appF rfl fun hS => ?_))
     replace hS : Ss _ _ _ H [] F _ _ := hS
     refine sM hS rfl fun hS => ve hS rfl rfl Tryd.call19 (jS hG K (yd.mk s4 (0 : Int)) MR (4 : Int) (hS.st.part 0 [] (by kernel_rfl)) (qt hM) (fun M6 MU w hM  hst => qz hS.ev hst.appF rfl fun hS => ?_))
     replace hS : Ss _ _ _ H [] F _ _ := hS
     refine sM hS rfl fun hS => sO hS (ex rfl rfl) rfl fun hS => sO hS (ex rfl rfl) rfl fun hS => sA hS rfl fun hS => sA hS rfl fun hS => qA <| wp_seq <| xS <| qm <| sM hS rfl fun hS => sB hS rfl fun hS => zG (v := Value.bool) (x0 := (MU != (0 : Int))) hS (xD rfl) rfl fun Nb a w hz hS => ?_
     have hM := qB hz hM; clear hz
     refine qA <| qF hS rfl hM (fun MZ hM => ?_) (fun MZ hM => ?_)
     ·refine wp_seq ?_
      refine zP <| sM hS rfl fun hS => sA hS rfl fun hS => sA hS rfl fun hS => sA hS rfl fun hS => qA <| wp_ret <| x6 (zl ?_)
      exact zD (rs := [4, 5, 6]) hS rfl rfl (hret ([] : List UInt8) (0 : Int) MU _ (q8 hM) (hS.st.pick [] (by kernel_rfl)))
     ·refine wp_seq ?_
      refine zP <| sM hS rfl fun hS => sO hS (u7 rfl Tryd.runUnderlying36 Tryd.runUnderlying25) rfl fun hS => sM hS rfl fun hS => qJ hS rfl Tryd.call13 (ZA hG K MT (hS.st.part 0 [] (by kernel_rfl)) (qt hM) (fun M7 w hM  hst => qz hS.ev hst.appF rfl fun hS => ?_))
      replace hS : Ss _ _ _ H [] F _ _ := hS
      refine sB hS rfl fun hS => zG (v := Value.bool) (x0 := ((wr .u32 M6) != M7)) hS (xD rfl) rfl fun Nc a w hz hS => ?_
      have hM := qB hz hM; clear hz
      refine qA <| qF hS rfl hM (fun M0 hM => ?_) (fun M0 hM => ?_)
      ·refine wp_seq ?_
       refine zP <| sA hS rfl fun hS => sA hS rfl fun hS => sA hS rfl fun hS => qA <| wp_ret <| x6 (zl ?_)
       exact zD (rs := [4, 5, 6]) hS rfl rfl (hret ([] : List UInt8) (0 : Int) (4 : Int) _ (q8 hM) (hS.st.pick [] (by kernel_rfl)))
      ·refine wp_skip ?_
       refine zy (qe ?_)
       refine qm <| sM hS rfl fun hS => sM hS rfl fun hS => sB hS rfl fun hS => sA hS rfl fun hS => zG (v := Value.int .i64) (x0 := (qh (MR + (4 : Int)))) hS (xD rfl) rfl fun M3 a w hz hS => ?_
       have hM := qB hz hM; clear hz
       refine sA hS rfl fun hS => qA <| wp_ret ?_
       exact zD (rs := [4, 5, 6]) hS rfl rfl (hret MT M3 (0 : Int) _ (q8 hM) (hS.st.pick [] (by kernel_rfl)))
theorem vx {H : xT} {F : List qk} {w : World} {R : Ending → World → Prop} {kr : Bool → Prop} {kp : Value → Prop} (hG : Gl H) (K : Nat)
    (hS : St w H [] F) (hm : (yo.m K).wp kr kp)
    (hret : ∀ (MW : Bool) (w : World), kr MW → St w H [] F → R (.returned (.bool MW)) w) :
    Calls Tryd.prog 6 ⟨[]⟩ w R := by
 refine enter Tryd.func6 rfl Tryd.ntmps6 rfl hS fun a w hS => ?_
 have hM := hm; clear hm
 rw [yo.m] at hM
 refine qm <| sA hS rfl fun hS => qA <| qm <| qJ hS rfl Tryd.call11 (vB hG K ([120, 156, 3, 0, 0, 0, 0, 1, 122] : List UInt8) (0 : Int) (hS.st.part 0 [] (by kernel_rfl)) (qt hM) (fun MR MS MT w hM  hst => qz hS.ev hst.appF rfl fun hS => ?_))
 replace hS : Ss _ _ _ H [] F _ _ := hS
 refine sM hS rfl fun hS => sO hS (ex rfl rfl) rfl fun hS => sO hS (ex rfl rfl) rfl fun hS => sO hS (ex rfl rfl) rfl fun hS => sA hS rfl fun hS => sA hS rfl fun hS => sA hS rfl fun hS => qA <| qm <| qJ hS rfl Tryd.call11 (vB hG K ([120, 156, 3, 0, 0, 0, 0, 2] : List UInt8) (0 : Int) (hS.st.part 0 [] (by kernel_rfl)) (qt hM) (fun MY MZ MU w hM  hst => qz hS.ev hst.appF rfl fun hS => ?_))
 replace hS : Ss _ _ _ H [] F _ _ := hS
 refine sM hS rfl fun hS => sO hS (ex rfl rfl) rfl fun hS => sO hS (ex rfl rfl) rfl fun hS => sO hS (ex rfl rfl) rfl fun hS => sA hS rfl fun hS => sA hS rfl fun hS => sA hS rfl fun hS => qA <| qm <| qJ hS rfl Tryd.call11 (vB hG K ([120, 157] : List UInt8) (0 : Int) (hS.st.part 0 [] (by kernel_rfl)) (qt hM) (fun M0 M3 MV w hM  hst => qz hS.ev hst.appF rfl fun hS => ?_))
 replace hS : Ss _ _ _ H [] F _ _ := hS
 refine sM hS rfl fun hS => sO hS (ex rfl rfl) rfl fun hS => sO hS (ex rfl rfl) rfl fun hS => sO hS (ex rfl rfl) rfl fun hS => sA hS rfl fun hS => sA hS rfl fun hS => sA hS rfl fun hS => qA <| qm <| sM hS rfl fun hS => sO hS (Lt rfl rfl rfl) rfl fun hS => sM hS rfl fun hS => yJ 2 true 27 (b := (MR == ([] : List UInt8))) (r := (MS == (8 : Int))) hS rfl rfl rfl rfl rfl rfl rfl (fun hb a w hS K hK => ?_) rfl fun a w hS => ?_
 ·refine zW hS rfl rfl rfl hb (mv rfl) rfl fun a w hS => ?_
  refine zW hS rfl rfl rfl hb (js rfl rfl rfl) rfl fun a w hS => ?_
  exact zn (hK _ _ (hS.up 2 rfl rfl))
 refine sM hS rfl fun hS => yJ 2 true 31 (b := ((MR == ([] : List UInt8)) && (MS == (8 : Int)))) (r := (MT == (0 : Int))) hS rfl rfl rfl rfl rfl rfl rfl (fun hb a w hS K hK => ?_) rfl fun a w hS => ?_
 ·refine zW hS rfl rfl rfl hb (mv rfl) rfl fun a w hS => ?_
  refine zW hS rfl rfl rfl hb (js rfl rfl rfl) rfl fun a w hS => ?_
  exact zn (hK _ _ (hS.up 2 rfl rfl))
 refine sM hS rfl fun hS => yJ 2 true 35 (b := (((MR == ([] : List UInt8)) && (MS == (8 : Int))) && (MT == (0 : Int)))) (r := (MU == (4 : Int))) hS rfl rfl rfl rfl rfl rfl rfl (fun hb a w hS K hK => ?_) rfl fun a w hS => ?_
 ·refine zW hS rfl rfl rfl hb (mv rfl) rfl fun a w hS => ?_
  refine zW hS rfl rfl rfl hb (js rfl rfl rfl) rfl fun a w hS => ?_
  exact zn (hK _ _ (hS.up 2 rfl rfl))
 refine sM hS rfl fun hS => yJ 2 true 39 (b := ((((MR == ([] : List UInt8)) && (MS == (8 : Int))) && (MT == (0 : Int))) && (MU == (4 : Int)))) (r := (MV == (3 : Int))) hS rfl rfl rfl rfl rfl rfl rfl (fun hb a w hS K hK => ?_) rfl fun a w hS => ?_
 ·refine zW hS rfl rfl rfl hb (mv rfl) rfl fun a w hS => ?_
  refine zW hS rfl rfl rfl hb (js rfl rfl rfl) rfl fun a w hS => ?_
  exact zn (hK _ _ (hS.up 2 rfl rfl))
 refine zG (v := Value.bool) (x0 := (((((MR == ([] : List UInt8)) && (MS == (8 : Int))) && (MT == (0 : Int))) && (MU == (4 : Int))) && (MV == (3 : Int)))) hS (xD rfl) rfl fun MX a w hz hS => ?_
 have hM := qB hz hM; clear hz
 refine qA <| wp_ret ?_
 exact zD (rs := [0]) hS rfl rfl (hret MX _ (q8 hM) (hS.st.pick [] (by kernel_rfl)))
theorem Zq {H : xT} {F : List qk} {w : World} {R : Ending → World → Prop} {kr : Int → Prop} {kp : Value → Prop} (hG : Gl H) (K : Nat) (MW : Int)
    (hS : St w H [] F) (hm : (zu.m K MW).wp kr kp)
    (hret : ∀ (M3 : Int) (w : World), kr M3 → St w H [] F → R (.returned (.int .i64 M3)) w) :
    Calls Tryd.prog 23 ⟨[.int .u64 MW]⟩ w R := by
 refine enter Tryd.func23 rfl Tryd.ntmps23 rfl hS fun a w hS => ?_
 have hM := hm; clear hm
 rw [zu.m] at hM
 refine qm <| sA hS rfl fun hS => qA <| zm (fun a w => ∃ (MU : Int) (MR : Int), Ss 25 [] [(0, .int .u64 MU), (2, .int .i64 MR)] H [] F a w ∧ (zu.j1 K MU MR).wp kr kp) (fun Nf MY => ?_) ?_
 ·refine wp_seq ?_
  refine zP <| sM hS rfl fun hS => sB hS rfl fun hS => qA <| qF hS rfl hM (fun M4 hM => ?_) (fun M4 hM => ?_)
  ·refine wp_seq ?_
   refine zP <| sM hS rfl fun hS => sO hS (shr rfl rfl rfl) rfl fun hS => zG (v := Value.int .u64) (x0 := (xa .u64 MW (32 : Int))) hS (xD rfl) rfl fun Nb a w hz hS => ?_
   have hM := qB hz hM; clear hz
   refine qA <| zP <| sA hS rfl fun hS => zn <| qe ?_
   exact MY _ _ ⟨Nb, (32 : Int), hS.to [] (by kernel_rfl) ⟨rfl, rfl, trivial⟩, hM⟩
  ·refine wp_skip ?_
   refine qe ?_
   exact MY _ _ ⟨MW, (0 : Int), hS.to [] (by kernel_rfl) ⟨rfl, rfl, trivial⟩, hM⟩
 ·intro a w hI
  obtain ⟨MU, MR, hS, hM⟩ := hI
  rw [zu.j1] at hM
  refine zm (fun a w => ∃ (MV : Int) (MS : Int), Ss 25 [] [(0, .int .u64 MV), (2, .int .i64 MS)] H [] F a w ∧ (zu.j2 K MV MS).wp kr kp) (fun Ng MZ => ?_) ?_
  ·refine wp_seq ?_
   refine zP <| sM hS rfl fun hS => sB hS rfl fun hS => qA <| qF hS rfl hM (fun M5 hM => ?_) (fun M5 hM => ?_)
   ·refine wp_seq ?_
    refine zP <| sM hS rfl fun hS => sO hS (shr rfl rfl rfl) rfl fun hS => zG (v := Value.int .u64) (x0 := (xa .u64 MU (16 : Int))) hS (xD rfl) rfl fun Nc a w hz hS => ?_
    have hM := qB hz hM; clear hz
    refine qA <| zP <| sM hS rfl fun hS => sB hS rfl fun hS => zG (v := Value.int .i64) (x0 := (qh (MR + (16 : Int)))) hS (xD rfl) rfl fun M8 a w hz hS => ?_
    have hM := qB hz hM; clear hz
    refine zn <| qe ?_
    exact MZ _ _ ⟨Nc, M8, hS.to [] (by kernel_rfl) ⟨rfl, rfl, trivial⟩, hM⟩
   ·refine wp_skip ?_
    refine qe ?_
    exact MZ _ _ ⟨MU, MR, hS.to [] (by kernel_rfl) ⟨rfl, rfl, trivial⟩, hM⟩
  ·intro a w hI
   obtain ⟨MV, MS, hS, hM⟩ := hI
   rw [zu.j2] at hM
   refine zm (fun a w => ∃ (MX : Int) (MT : Int), Ss 25 [] [(0, .int .u64 MX), (2, .int .i64 MT)] H [] F a w ∧ (zu.j3 K MX MT).wp kr kp) (fun Nh M0 => ?_) ?_
   ·refine wp_seq ?_
    refine zP <| sM hS rfl fun hS => sB hS rfl fun hS => qA <| qF hS rfl hM (fun M6 hM => ?_) (fun M6 hM => ?_)
    ·refine wp_seq ?_
     refine zP <| sM hS rfl fun hS => sO hS (shr rfl rfl rfl) rfl fun hS => zG (v := Value.int .u64) (x0 := (xa .u64 MV (8 : Int))) hS (xD rfl) rfl fun Nd a w hz hS => ?_
     have hM := qB hz hM; clear hz
     refine qA <| zP <| sM hS rfl fun hS => sB hS rfl fun hS => zG (v := Value.int .i64) (x0 := (qh (MS + (8 : Int)))) hS (xD rfl) rfl fun M9 a w hz hS => ?_
     have hM := qB hz hM; clear hz
     refine zn <| qe ?_
     exact M0 _ _ ⟨Nd, M9, hS.to [] (by kernel_rfl) ⟨rfl, rfl, trivial⟩, hM⟩
    ·refine wp_skip ?_
     refine qe ?_
     exact M0 _ _ ⟨MV, MS, hS.to [] (by kernel_rfl) ⟨rfl, rfl, trivial⟩, hM⟩
   ·intro a w hI
    obtain ⟨MX, MT, hS, hM⟩ := hI
    rw [zu.j3] at hM
    refine qm <| sM hS rfl fun hS => sM hS rfl fun hS => sO hS (u7 rfl Tryd.runUnderlying36 Tryd.runUnderlying5) rfl fun hS => ?_
    obtain ⟨M7, hM⟩ := qK hM
    refine sO hS (U2 rfl rfl Tryd.runUnderlying9 M7) rfl fun hS => sO hS (u7 rfl Tryd.runUnderlying5 Tryd.runUnderlying3) rfl fun hS => sB hS rfl fun hS => zG (v := Value.int .i64) (x0 := (qh (MT + (wr .i64 ((rd ([0, 1, 2, 2, 3, 3, 3, 3, 4, 4, 4, 4, 4, 4, 4, 4, 5, 5, 5, 5, 5, 5, 5, 5, 5, 5, 5, 5, 5, 5, 5, 5, 6, 6, 6, 6, 6, 6, 6, 6, 6, 6, 6, 6, 6, 6, 6, 6, 6, 6, 6, 6, 6, 6, 6, 6, 6, 6, 6, 6, 6, 6, 6, 6, 7, 7, 7, 7, 7, 7, 7, 7, 7, 7, 7, 7, 7, 7, 7, 7, 7, 7, 7, 7, 7, 7, 7, 7, 7, 7, 7, 7, 7, 7, 7, 7, 7, 7, 7, 7, 7, 7, 7, 7, 7, 7, 7, 7, 7, 7, 7, 7, 7, 7, 7, 7, 7, 7, 7, 7, 7, 7, 7, 7, 7, 7, 7, 7, 8, 8, 8, 8, 8, 8, 8, 8, 8, 8, 8, 8, 8, 8, 8, 8, 8, 8, 8, 8, 8, 8, 8, 8, 8, 8, 8, 8, 8, 8, 8, 8, 8, 8, 8, 8, 8, 8, 8, 8, 8, 8, 8, 8, 8, 8, 8, 8, 8, 8, 8, 8, 8, 8, 8, 8, 8, 8, 8, 8, 8, 8, 8, 8, 8, 8, 8, 8, 8, 8, 8, 8, 8, 8, 8, 8, 8, 8, 8, 8, 8, 8, 8, 8, 8, 8, 8, 8, 8, 8, 8, 8, 8, 8, 8, 8, 8, 8, 8, 8, 8, 8, 8, 8, 8, 8, 8, 8, 8, 8, 8, 8, 8, 8, 8, 8, 8, 8, 8, 8, 8, 8, 8, 8, 8, 8, 8, 8] : List UInt8) (wr .u8 MX)).toNat : Int))))) hS (xD rfl) rfl fun Na a w hz hS => ?_
    have hM := qB hz hM; clear hz
    refine qA <| wp_ret ?_
    exact zD (rs := [2]) hS rfl rfl (hret Na _ (q8 hM) (hS.st.pick [] (by kernel_rfl)))
theorem Z4 {H : xT} {F : List qk} {w : World} {R : Ending → World → Prop} {kr : ((List UInt8) × Int) → Prop} {kp : Value → Prop} (hG : Gl H) (K : Nat) (MS : Int) (MT : Int)
    (hS : St w H [] F) (hm : (xl.m K MS MT).wp kr kp)
    (hret : ∀ (M9 : List UInt8) (Na : Int) (w : World), kr (M9, Na) → St w H [] F → R (.returned (.tuple ⟨[xi M9, .int .i64 Na]⟩)) w) :
    Calls Tryd.prog 12 ⟨[.int .u64 MS, .int .i64 MT, .bool true]⟩ w R := by
 refine enter Tryd.func12 rfl Tryd.ntmps12 rfl hS fun a w hS => ?_
 have hM := hm; clear hm
 rw [xl.m] at hM
 refine qm <| sA hS rfl fun hS => sA hS rfl fun hS => qA <| wp_seq <| qm <| sM hS rfl fun hS => qJ hS rfl Tryd.call22 (QY hG K MT (hS.st.part 0 [] (by kernel_rfl)) (qt hM) (fun Np w hM  hst => qz hS.ev hst.appF rfl fun hS => ?_))
 replace hS : Ss _ _ _ H [] F _ _ := hS
 refine sO hS (un rfl rfl) rfl fun hS => qA <| qF hS rfl hM (fun Nf hM => ?_) (fun Nf hM => ?_)
 ·refine wp_seq ?_
  refine zP <| sA hS rfl fun hS => sA hS rfl fun hS => qA <| wp_ret <| zl ?_
  exact zD (rs := [6, 7]) hS rfl rfl (hret ([] : List UInt8) (1 : Int) _ (q8 hM) (hS.st.pick [] (by kernel_rfl)))
 ·refine wp_skip ?_
  refine qe <| wp_seq <| qm <| sM hS rfl fun hS => qJ hS rfl Tryd.call23 (Zq hG K MS (hS.st.part 0 [] (by kernel_rfl)) (qt hM) (fun Nq w hM  hst => qz hS.ev hst.appF rfl fun hS => ?_))
  replace hS : Ss _ _ _ H [] F _ _ := hS
  refine sM hS rfl fun hS => sB hS rfl fun hS => sB hS rfl fun hS => qA <| qF hS rfl hM (fun Ng hM => ?_) (fun Ng hM => ?_)
  ·refine wp_seq ?_
   refine zP <| sA hS rfl fun hS => sA hS rfl fun hS => qA <| wp_ret <| zl ?_
   exact zD (rs := [6, 7]) hS rfl rfl (hret ([] : List UInt8) (10 : Int) _ (q8 hM) (hS.st.pick [] (by kernel_rfl)))
  ·refine wp_skip ?_
   refine qe <| qm <| sM hS rfl fun hS => sM hS rfl fun hS => qJ hS rfl Tryd.call24 (uH hG K MT (hS.st.part 0 [] (by kernel_rfl)) (qt hM) (fun MW M3 w hM Nm hst => qz hS.ev hst.appF rfl fun hS => ?_))
   replace hS : Ss _ _ _ H [M3] F _ _ := hS
   refine sA hS rfl fun hS => qA <| qm <| sM hS rfl fun hS => ?_
   obtain ⟨Ni, hM⟩ := qK hM
   refine Dw (g := (ci .u8)) (m := MT) (0 : Int) hS rfl rfl (by simp) Tryd.runUnderlying32 X.el5 (fun w => ⟨_, Tryd.zeroValue5 w, rfl⟩) (fun _ => rfl) rfl rfl Ni rfl fun MZ w MV MX Nk hz Nc hS => ?_
   have hM := qB hz hM; clear hz
   refine sA hS rfl fun hS => qA <| wp_seq <| qm <| sM hS rfl fun hS => sO hS (yk rfl Tryd.runUnderlying32) rfl fun hS => sM hS rfl fun hS => qA <| xS <| zv (fun M8 a w => ∃ (MU : (List Int)) (M4 : qk) (MR : Int), Ss 42 [] [(0, .int .u64 MS), (8, jE 45 [] [qL MW 0]), (9, .slice MV MU.length MX), (25, .int .i64 (MZ.length : Int)), (26, .int .i64 MR)] H [M3, M4] F a w ∧ (xj 5 (ci .u8) 1 MV MU MX M4) ∧ (xl.l1 K MS MT MZ M8 MU MR).wp kr kp) K ?_ ?_ ?_
   ·exact ⟨MZ, Nk, (0 : Int), hS.to [1, 0] (by kernel_rfl) ⟨rfl, rfl, rfl, rfl, rfl, trivial⟩, Nc, hM⟩
   ·intro a w hI; obtain ⟨_, _, _, _, _, hM⟩ := hI; exact zt hM
   ·intro M8 a w hI No Nb
    obtain ⟨MU, M4, MR, hS, M0, hM⟩ := hI
    rw [xl.l1] at hM
    refine qm <| sB hS rfl fun hS => qA <| wp_seq <| qF hS rfl hM (fun Nh hM => ?_) (fun Nh hM => ?_)
    ·refine wp_skip ?_
     refine qe <| wp_seq <| xS <| qm <| sM hS rfl fun hS => sA hS rfl fun hS => zn <| qe ?_
     obtain ⟨M5, hM⟩ := qK hM
     refine za (vals := [some (.slice MV MU.length MX), some (jE 45 [] [qL MW 0]), some (.int .i64 MR), none, some (.int .u64 MS), some (.int .i64 MR), some (.int .i64 (qh ((8 : Int) * MR))), some (.int .u64 (xa .u64 MS (qh ((8 : Int) * MR)))), some (.int .u8 (wr .u8 (xa .u64 MS (qh ((8 : Int) * MR))))), none, none]) hS xG rfl ?_
     intro l w ho hcl hA hst
     refine jg hA hst ho hcl xx xH 3 [0, 1, 2, 4, 5, 6, 7, 8] rfl rfl rfl rfl rfl (by exact ⟨nM rfl, nM rfl, nM rfl, nM rfl, nM rfl, nB rfl, nQ rfl (by exact qW (shr rfl rfl M5) rfl), nQ rfl (by exact qW (u7 rfl Tryd.runUnderlying36 Tryd.runUnderlying5) rfl), trivial⟩) fun D l a w ho hcl hav hpre hm hE hk hA hst => ?_
     have hS := (Ss.mk hE hst).env2 (e' := [(30, jE 45 [] [qL MW 0]), (31, .int .i64 MR)]) ⟨rfl, rfl, trivial⟩
     refine qQ rfl <| ve hS rfl rfl Tryd.call45 (v4 hG K MR MT MW M3 Nm (hS.st.part 1 [0, 1] (by kernel_rfl)) (qt hM) (fun MY w hM  hst => qz hS.ev hst.appF rfl fun hS => ?_))
     replace hS : Ss _ _ _ H [M3, M4] F _ _ := hS
     refine qA ?_
     replace hst := hS.st
     obtain ⟨M6, hM⟩ := qK hM
     obtain ⟨hcl, hmust, hav2, hA⟩ := dn (vals' := [some (.slice MV MU.length MX), some (jE 45 [] [qL MW 0]), some (.int .i64 MR), some (.int .i64 MY), some (.int .u64 MS), some (.int .i64 MR), some (.int .i64 (qh ((8 : Int) * MR))), some (.int .u64 (xa .u64 MS (qh ((8 : Int) * MR)))), some (.int .u8 (wr .u8 (xa .u64 MS (qh ((8 : Int) * MR))))), some (xI MV (Int.toNat MY * 1)), none]) 3 [(1, 3), (2, 3)] hA hcl hav hm hpre hk rfl rfl rfl rfl rfl rfl rfl
     clear hm hav
     refine jg hA hst ho hcl hav2 hmust 10 [0, 4, 5, 6, 7, 8, 9] rfl rfl rfl rfl rfl (by exact ⟨nM rfl, nM rfl, nM rfl, nB rfl, nQ rfl (by exact qW (shr rfl rfl M5) rfl), nQ rfl (by exact qW (u7 rfl Tryd.runUnderlying36 Tryd.runUnderlying5) rfl), nQ rfl (by exact qW (yv rfl rfl Tryd.runUnderlying32 Tryd.sizeOf5 (M0.rd (i := 1) rfl) (fun _ => rfl) rfl M6) rfl), trivial⟩) fun D l a w ho hcl hav hpre hm hE hk hA hst => ?_
     have hS := (Ss.mk hE hst).env2 (e' := [(37, .int .u8 (wr .u8 (xa .u64 MS (qh ((8 : Int) * MR))))), (38, xI MV (Int.toNat MY * 1))]) ⟨rfl, rfl, trivial⟩
     refine qQ rfl <| J4 (i := MY) (sz := 1) 1 0 ((wr .u8 (xa .u64 MS (qh ((8 : Int) * MR))))) hS rfl rfl M0 rfl Tryd.sizeOf5 (Qv (wr .u8 (xa .u64 MS (qh ((8 : Int) * MR))))) (fun _ => rfl) M6 rfl rfl fun M7 w Nl hz Nj Nd hS => ?_
     have hM := qB hz hM; clear hz
     refine qA ?_
     replace hst := hS.st
     obtain ⟨hcl, hmust, hav2, hA⟩ := XQ (vals' := [some (.slice MV MU.length MX), some (jE 45 [] [qL MW 0]), some (.int .i64 MR), some (.int .i64 MY), some (.int .u64 MS), some (.int .i64 MR), some (.int .i64 (qh ((8 : Int) * MR))), some (.int .u64 (xa .u64 MS (qh ((8 : Int) * MR)))), some (.int .u8 (wr .u8 (xa .u64 MS (qh ((8 : Int) * MR))))), some (xI MV (Int.toNat MY * 1)), some undef]) 10 [(0, 10), (1, 10), (2, 10), (3, 10), (4, 10), (5, 10), (6, 10), (7, 10), (8, 10), (9, 10)] hA hcl hav hm hpre rfl rfl rfl rfl rfl
     clear hm hav
     refine ym hA hst ho hcl hmust [] rfl rfl rfl trivial fun a w hS => ?_
     replace hS := hS.env2 (e' := [(0, .int .u64 MS), (8, jE 45 [] [qL MW 0]), (9, .slice MV M7.length MX), (25, .int .i64 (MZ.length : Int)), (26, .int .i64 MR)]) ⟨rfl, rfl, (KP (u := .slice MV MU.length MX) rfl (by rw [Nj])), rfl, rfl, trivial⟩
     refine zy (qe ?_)
     refine zP <| sB hS rfl fun hS => sM hS rfl fun hS => zn <| qe ?_
     exact Nb _ _ ⟨M7, Nl, (qh (MR + (1 : Int))), hS.to [0, 1] (by kernel_rfl) ⟨rfl, rfl, rfl, rfl, rfl, trivial⟩, Nd, hM⟩
    ·refine wp_exit ?_
     refine qE (qE (zd (qe ?_)))
     refine qm <| sM hS rfl fun hS => sO hS (Lv rfl Tryd.runUnderlying32 Tryd.runUnderlying5 Tryd.runUnderlying9 (M0.rd (i := 1) rfl)) rfl fun hS => zG (v := xi) (x0 := (MU.map ur)) hS (xD rfl) rfl fun Nn a w hz hS => ?_
     have hM := qB hz hM; clear hz
     refine sA hS rfl fun hS => qA <| wp_ret ?_
     exact zD (rs := [6, 7]) hS rfl rfl (hret Nn (0 : Int) _ (q8 hM) (hS.st.pick [] (by kernel_rfl)))
theorem ug {H : xT} {F : List qk} {w : World} {R : Ending → World → Prop} {kr : Unit → Prop} {kp : Value → Prop} (hG : Gl H) (K : Nat) (MR : xn) (MS : Int) (MT : Nat) (MX : qk) (MZ : Nat) (MY : qk) (MU : xM MX MT ([xi MR.text_, .map (some MZ)]) 55) (M7 : XH (K1 .u8) (K2 3) 3 (ci .i64) 1 MZ MR.seen_ MY)
    (hS : St w H [MX, MY] F) (hm : (yD.m K MR MS).wp kr kp)
    (hret : ∀ (w : World), kr () → St w H [MX, MY] F → R (.returned (.agg ⟨([((rd MR.text_ MS).toNat : Int), ((rd MR.text_ (qh (MS + (1 : Int)))).toNat : Int), ((rd MR.text_ (qh (MS + (2 : Int)))).toNat : Int)] : List Int).flatMap (ci .u8)⟩)) w) :
    Calls Tryd.prog 47 ⟨[qL MT 0, .int .i64 MS]⟩ w R := by
 refine enter Tryd.func47 rfl Tryd.ntmps47 rfl hS fun a w hS => ?_
 have hM := hm; clear hm
 rw [yD.m] at hM
 refine qm <| QF ((List.replicate 3 (0 : Int)).flatMap (ci .u8)) hS Tryd.zeroValue100 rfl rfl fun w MW M8 M0 hS => qA <| wp_seq ?_
 obtain ⟨M3, hM⟩ := qK hM
 obtain ⟨M4, hM⟩ := qK hM
 obtain ⟨M5, hM⟩ := qK hM
 refine za (vals := [some (qL MT 0), some (qL MT 0), some (qL MT 0), some (xi MR.text_), some (.int .i64 MS), some (.int .u8 ((rd MR.text_ MS).toNat : Int)), some (qL MT 0), some (qL MT 0), some (qL MT 0), some (xi MR.text_), some (.int .i64 MS), some (.int .i64 (qh (MS + (1 : Int)))), some (.int .u8 ((rd MR.text_ (qh (MS + (1 : Int)))).toNat : Int)), some (qL MT 0), some (qL MT 0), some (qL MT 0), some (xi MR.text_), some (.int .i64 MS), some (.int .i64 (qh (MS + (2 : Int)))), some (.int .u8 ((rd MR.text_ (qh (MS + (2 : Int)))).toNat : Int)), some (.agg ⟨([((rd MR.text_ MS).toNat : Int), ((rd MR.text_ (qh (MS + (1 : Int)))).toNat : Int), ((rd MR.text_ (qh (MS + (2 : Int)))).toNat : Int)] : List Int).flatMap (ci .u8)⟩), none]) hS xG rfl ?_
 intro l w ho hcl hA hst
 refine jg hA hst ho hcl xx xH 21 [0, 1, 2, 3, 4, 5, 6, 7, 8, 9, 10, 11, 12, 13, 14, 15, 16, 17, 18, 19, 20] rfl rfl rfl rfl rfl (by exact ⟨nM rfl, nQ rfl (by exact qW (yy rfl) rfl), nQ rfl (by exact qW (xv rfl Tryd.runUnderlying55 rfl Tryd.sizeOf9 rfl) rfl), nQ rfl (by exact qW (x5 1 rfl MU rfl rfl Tryd.isAgg9) rfl), nM rfl, nQ rfl (by exact qW (U2 rfl rfl Tryd.runUnderlying9 M3) rfl), nM rfl, nQ rfl (by exact qW (yy rfl) rfl), nQ rfl (by exact qW (xv rfl Tryd.runUnderlying55 rfl Tryd.sizeOf9 rfl) rfl), nQ rfl (by exact qW (x5 1 rfl MU rfl rfl Tryd.isAgg9) rfl), nM rfl, nB rfl, nQ rfl (by exact qW (U2 rfl rfl Tryd.runUnderlying9 M4) rfl), nM rfl, nQ rfl (by exact qW (yy rfl) rfl), nQ rfl (by exact qW (xv rfl Tryd.runUnderlying55 rfl Tryd.sizeOf9 rfl) rfl), nQ rfl (by exact qW (x5 1 rfl MU rfl rfl Tryd.isAgg9) rfl), nM rfl, nB rfl, nQ rfl (by exact qW (U2 rfl rfl Tryd.runUnderlying9 M5) rfl), nQ rfl (by exact qW (Bb (([((rd MR.text_ MS).toNat : Int), ((rd MR.text_ (qh (MS + (1 : Int)))).toNat : Int), ((rd MR.text_ (qh (MS + (2 : Int)))).toNat : Int)] : List Int).flatMap (ci .u8)) Tryd.zeroValue100 Tryd.runUnderlying100 Tryd.sizeOf5 rfl (by kernel_rfl)) rfl), trivial⟩) fun D l a w ho hcl hav hpre hm hE hk hA hst => ?_
 have hS := (Ss.mk hE hst).env2 (e' := [(4, qL MW 0), (25, .agg ⟨([((rd MR.text_ MS).toNat : Int), ((rd MR.text_ (qh (MS + (1 : Int)))).toNat : Int), ((rd MR.text_ (qh (MS + (2 : Int)))).toNat : Int)] : List Int).flatMap (ci .u8)⟩)]) ⟨rfl, rfl, trivial⟩
 refine qQ rfl <| YI (xs := (List.replicate 3 (0 : Int))) (ys := ([((rd MR.text_ MS).toNat : Int), ((rd MR.text_ (qh (MS + (1 : Int)))).toNat : Int), ((rd MR.text_ (qh (MS + (2 : Int)))).toNat : Int)] : List Int)) (g := (ci .u8)) (pre := []) (post := []) 0 hS rfl rfl M0 rfl (by simp) rfl (xf (g := (ci .u8)) (sz := 1) (fun _ => rfl) (List.length_replicate ..)) (xf (g := (ci .u8)) (sz := 1) (fun _ => rfl) rfl) (Qv) Tryd.sizeOf100 fun w M6 MV hS => ?_
 replace MV : xM M6 MW (([((rd MR.text_ MS).toNat : Int), ((rd MR.text_ (qh (MS + (1 : Int)))).toNat : Int), ((rd MR.text_ (qh (MS + (2 : Int)))).toNat : Int)] : List Int).flatMap (ci .u8)) 100 := by simpa using MV
 refine qA ?_
 replace hst := hS.st
 obtain ⟨hcl, hmust, hav2, hA⟩ := XQ (vals' := [some (qL MT 0), some (qL MT 0), some (qL MT 0), some (xi MR.text_), some (.int .i64 MS), some (.int .u8 ((rd MR.text_ MS).toNat : Int)), some (qL MT 0), some (qL MT 0), some (qL MT 0), some (xi MR.text_), some (.int .i64 MS), some (.int .i64 (qh (MS + (1 : Int)))), some (.int .u8 ((rd MR.text_ (qh (MS + (1 : Int)))).toNat : Int)), some (qL MT 0), some (qL MT 0), some (qL MT 0), some (xi MR.text_), some (.int .i64 MS), some (.int .i64 (qh (MS + (2 : Int)))), some (.int .u8 ((rd MR.text_ (qh (MS + (2 : Int)))).toNat : Int)), some (.agg ⟨([((rd MR.text_ MS).toNat : Int), ((rd MR.text_ (qh (MS + (1 : Int)))).toNat : Int), ((rd MR.text_ (qh (MS + (2 : Int)))).toNat : Int)] : List Int).flatMap (ci .u8)⟩), some undef]) 21 [(0, 21), (1, 21), (2, 21), (3, 21), (4, 21), (5, 21), (6, 21), (7, 21), (8, 21), (9, 21), (10, 21), (11, 21), (12, 21), (13, 21), (14, 21), (15, 21), (16, 21), (17, 21), (18, 21), (19, 21), (20, 21)] hA hcl hav hm hpre rfl rfl rfl rfl rfl
 clear hm hav
 refine ym hA hst ho hcl hmust [] rfl rfl rfl trivial fun a w hS => ?_
 replace hS := hS.env2 (e' := [(4, qL MW 0)]) ⟨rfl, trivial⟩
 refine qe <| wp_ret ?_
 exact jk (vs := [.agg ⟨([((rd MR.text_ MS).toNat : Int), ((rd MR.text_ (qh (MS + (1 : Int)))).toNat : Int), ((rd MR.text_ (qh (MS + (2 : Int)))).toNat : Int)] : List Int).flatMap (ci .u8)⟩]) hS rfl (by exact ⟨LQ 0 rfl MV rfl (xf (g := (ci .u8)) (sz := 1) (fun _ => rfl) rfl) Tryd.isAgg100 Tryd.sizeOf100, trivial⟩) (hret _ (q8 hM) (hS.st.pick [1, 2] (by kernel_rfl)))
theorem QS {H : xT} {F : List qk} {w : World} {R : Ending → World → Prop} {kr : Int → Prop} {kp : Value → Prop} (hG : Gl H) (K : Nat) (MS : xn) (MU : Int) (MT : Int) (MV : Nat) (MY : qk) (M6 : Nat) (MZ : qk) (MW : xM MY MV ([xi MS.text_, .map (some M6)]) 55) (Nd : XH (K1 .u8) (K2 3) 3 (ci .i64) 1 M6 MS.seen_ MZ)
    (hS : St w H [MY, MZ] F) (hm : (zw.m K MS MU MT).wp kr kp)
    (hret : ∀ (M7 : Int) (w : World), kr M7 → St w H [MY, MZ] F → R (.returned (.int .i64 M7)) w) :
    Calls Tryd.prog 48 ⟨[qL MV 0, .int .i64 MU, .int .i64 MT]⟩ w R := by
 refine enter Tryd.func48 rfl Tryd.ntmps48 rfl hS fun a w hS => ?_
 have hM := hm; clear hm
 rw [zw.m] at hM
 refine qm <| sA hS rfl fun hS => qA <| qm <| sA hS rfl fun hS => qA <| wp_seq <| xS <| zv (fun M4 a w => ∃ (MR : Int), Ss 43 [] [(0, qL MV 0), (1, .int .i64 MU), (2, .int .i64 MT), (7, .int .i64 MR)] H [MY, MZ] F a w ∧ (zw.l1 K MS MU MT M4 MR).wp kr kp) K ?_ ?_ ?_
 ·exact ⟨(0 : Int), hS.to [0, 1] (by kernel_rfl) ⟨rfl, rfl, rfl, rfl, trivial⟩, hM⟩
 ·intro a w hI; obtain ⟨_, _, hM⟩ := hI; exact zt hM
 ·intro M4 a w hI Ng M8
  obtain ⟨MR, hS, hM⟩ := hI
  rw [zw.l1] at hM
  refine wp_seq <| zm (fun a w => ∃ (M5 : Bool), Ss 43 [] [(0, qL MV 0), (1, .int .i64 MU), (2, .int .i64 MT), (7, .int .i64 MR), (39, .bool M5)] H [MY, MZ] F a w ∧ (zw.j2 K (zw.l1 K MS MU MT M4) MR M5).wp kr kp) (fun Nf M0 => ?_) ?_
  ·refine Li (b := (decide (MR < (258 : Int)))) hM (fun MX hM => ?_) (fun MX hM => ?_)
   ·refine Li (b := (decide ((qh (MT + MR)) < (MS.text_.length : Int)))) hM (fun M3 hM => ?_) (fun M3 hM => ?_)
    ·obtain ⟨Na, hM⟩ := qK hM
     obtain ⟨Nb, hM⟩ := qK hM
     refine za (vals := [some (.int .i64 MR), some (.bool true), some (.bool true), some (.int .i64 MT), some (.int .i64 MR), some (.int .i64 (qh (MT + MR))), some (qL MV 0), some (qL MV 0), some (qL MV 0), some (xi MS.text_), some (.int .i64 (MS.text_.length : Int)), some (.bool true), some (.bool true), some (.bool true), some (qL MV 0), some (qL MV 0), some (qL MV 0), some (xi MS.text_), some (.int .i64 MU), some (.int .i64 MR), some (.int .i64 (qh (MU + MR))), some (.int .u8 ((rd MS.text_ (qh (MU + MR))).toNat : Int)), some (qL MV 0), some (qL MV 0), some (qL MV 0), some (xi MS.text_), some (.int .i64 MT), some (.int .i64 MR), some (.int .i64 (qh (MT + MR))), some (.int .u8 ((rd MS.text_ (qh (MT + MR))).toNat : Int)), some (.bool (((rd MS.text_ (qh (MU + MR))).toNat : Int) == ((rd MS.text_ (qh (MT + MR))).toNat : Int))), some (.bool (((rd MS.text_ (qh (MU + MR))).toNat : Int) == ((rd MS.text_ (qh (MT + MR))).toNat : Int)))]) hS xG rfl ?_
     intro l w ho hcl hA hst
     refine ym hA hst ho hcl xH [0, 1, 2, 3, 4, 5, 6, 7, 8, 9, 10, 11, 12, 13, 14, 15, 16, 17, 18, 19, 20, 21, 22, 23, 24, 25, 26, 27, 28, 29, 30, 31] rfl rfl rfl (by exact ⟨nM rfl, nQ rfl (by exact qW (js rfl rfl rfl) (congrArg Value.bool MX)), nM rfl, nW rfl rfl rfl rfl rfl rfl rfl rfl (by exact qW (mv rfl) rfl), nW rfl rfl rfl rfl rfl rfl rfl rfl (by exact qW (mv rfl) rfl), nW rfl rfl rfl rfl rfl rfl rfl rfl (by exact qW (js rfl rfl rfl) rfl), nW rfl rfl rfl rfl rfl rfl rfl rfl (by exact qW (mv rfl) rfl), nW rfl rfl rfl rfl rfl rfl rfl rfl (by exact qW (yy rfl) rfl), nW rfl rfl rfl rfl rfl rfl rfl rfl (by exact qW (xv rfl Tryd.runUnderlying55 rfl Tryd.sizeOf9 rfl) rfl), nW rfl rfl rfl rfl rfl rfl rfl rfl (by exact qW (x5 0 rfl MW rfl rfl Tryd.isAgg9) rfl), nW rfl rfl rfl rfl rfl rfl rfl rfl (by exact qW (ul rfl Tryd.runUnderlying9) rfl), nW rfl rfl rfl rfl rfl rfl rfl rfl (by exact qW (js rfl rfl rfl) (congrArg Value.bool M3)), nQ rfl (by exact qW (pk rfl rfl rfl) rfl), nM rfl, nW rfl rfl rfl rfl rfl rfl rfl rfl (by exact qW (mv rfl) rfl), nW rfl rfl rfl rfl rfl rfl rfl rfl (by exact qW (yy rfl) rfl), nW rfl rfl rfl rfl rfl rfl rfl rfl (by exact qW (xv rfl Tryd.runUnderlying55 rfl Tryd.sizeOf9 rfl) rfl), nW rfl rfl rfl rfl rfl rfl rfl rfl (by exact qW (x5 0 rfl MW rfl rfl Tryd.isAgg9) rfl), nW rfl rfl rfl rfl rfl rfl rfl rfl (by exact qW (mv rfl) rfl), nW rfl rfl rfl rfl rfl rfl rfl rfl (by exact qW (mv rfl) rfl), nW rfl rfl rfl rfl rfl rfl rfl rfl (by exact qW (js rfl rfl rfl) rfl), nW rfl rfl rfl rfl rfl rfl rfl rfl (by exact qW (U2 rfl rfl Tryd.runUnderlying9 Na) rfl), nW rfl rfl rfl rfl rfl rfl rfl rfl (by exact qW (mv rfl) rfl), nW rfl rfl rfl rfl rfl rfl rfl rfl (by exact qW (yy rfl) rfl), nW rfl rfl rfl rfl rfl rfl rfl rfl (by exact qW (xv rfl Tryd.runUnderlying55 rfl Tryd.sizeOf9 rfl) rfl), nW rfl rfl rfl rfl rfl rfl rfl rfl (by exact qW (x5 0 rfl MW rfl rfl Tryd.isAgg9) rfl), nW rfl rfl rfl rfl rfl rfl rfl rfl (by exact qW (mv rfl) rfl), nW rfl rfl rfl rfl rfl rfl rfl rfl (by exact qW (mv rfl) rfl), nW rfl rfl rfl rfl rfl rfl rfl rfl (by exact qW (js rfl rfl rfl) rfl), nW rfl rfl rfl rfl rfl rfl rfl rfl (by exact qW (U2 rfl rfl Tryd.runUnderlying9 Nb) rfl), nW rfl rfl rfl rfl rfl rfl rfl rfl (by exact qW (js rfl rfl rfl) rfl), nQ rfl (by exact qW (pk rfl rfl rfl) rfl), trivial⟩) fun a w hS => ?_
     replace hS := hS.env2 (e' := [(0, qL MV 0), (1, .int .i64 MU), (2, .int .i64 MT), (7, .int .i64 MR), (39, .bool (((rd MS.text_ (qh (MU + MR))).toNat : Int) == ((rd MS.text_ (qh (MT + MR))).toNat : Int)))]) ⟨rfl, rfl, rfl, rfl, rfl, trivial⟩
     refine qe ?_
     exact M0 _ _ ⟨(((rd MS.text_ (qh (MU + MR))).toNat : Int) == ((rd MS.text_ (qh (MT + MR))).toNat : Int)), hS.to [0, 1] (by kernel_rfl) ⟨rfl, rfl, rfl, rfl, rfl, trivial⟩, hM⟩
    ·refine za (vals := [some (.int .i64 MR), some (.bool true), some (.bool true), some (.int .i64 MT), some (.int .i64 MR), some (.int .i64 (qh (MT + MR))), some (qL MV 0), some (qL MV 0), some (qL MV 0), some (xi MS.text_), some (.int .i64 (MS.text_.length : Int)), some (.bool false), some (.bool false), some (.bool false), some (undef), some (undef), some (undef), some (undef), some (undef), some (undef), some (undef), some (undef), some (undef), some (undef), some (undef), some (undef), some (undef), some (undef), some (undef), some (undef), some (undef), some (.bool false)]) hS xG rfl ?_
     intro l w ho hcl hA hst
     refine ym hA hst ho hcl xH [0, 1, 2, 3, 4, 5, 6, 7, 8, 9, 10, 11, 12, 13, 14, 15, 16, 17, 18, 19, 20, 21, 22, 23, 24, 25, 26, 27, 28, 29, 30, 31] rfl rfl rfl (by exact ⟨nM rfl, nQ rfl (by exact qW (js rfl rfl rfl) (congrArg Value.bool MX)), nM rfl, nW rfl rfl rfl rfl rfl rfl rfl rfl (by exact qW (mv rfl) rfl), nW rfl rfl rfl rfl rfl rfl rfl rfl (by exact qW (mv rfl) rfl), nW rfl rfl rfl rfl rfl rfl rfl rfl (by exact qW (js rfl rfl rfl) rfl), nW rfl rfl rfl rfl rfl rfl rfl rfl (by exact qW (mv rfl) rfl), nW rfl rfl rfl rfl rfl rfl rfl rfl (by exact qW (yy rfl) rfl), nW rfl rfl rfl rfl rfl rfl rfl rfl (by exact qW (xv rfl Tryd.runUnderlying55 rfl Tryd.sizeOf9 rfl) rfl), nW rfl rfl rfl rfl rfl rfl rfl rfl (by exact qW (x5 0 rfl MW rfl rfl Tryd.isAgg9) rfl), nW rfl rfl rfl rfl rfl rfl rfl rfl (by exact qW (ul rfl Tryd.runUnderlying9) rfl), nW rfl rfl rfl rfl rfl rfl rfl rfl (by exact qW (js rfl rfl rfl) (congrArg Value.bool M3)), nQ rfl (by exact qW (pk rfl rfl rfl) rfl), nM rfl, nS rfl rfl rfl rfl rfl rfl rfl rfl rfl, nS rfl rfl rfl rfl rfl rfl rfl rfl rfl, nS rfl rfl rfl rfl rfl rfl rfl rfl rfl, nS rfl rfl rfl rfl rfl rfl rfl rfl rfl, nS rfl rfl rfl rfl rfl rfl rfl rfl rfl, nS rfl rfl rfl rfl rfl rfl rfl rfl rfl, nS rfl rfl rfl rfl rfl rfl rfl rfl rfl, nS rfl rfl rfl rfl rfl rfl rfl rfl rfl, nS rfl rfl rfl rfl rfl rfl rfl rfl rfl, nS rfl rfl rfl rfl rfl rfl rfl rfl rfl, nS rfl rfl rfl rfl rfl rfl rfl rfl rfl, nS rfl rfl rfl rfl rfl rfl rfl rfl rfl, nS rfl rfl rfl rfl rfl rfl rfl rfl rfl, nS rfl rfl rfl rfl rfl rfl rfl rfl rfl, nS rfl rfl rfl rfl rfl rfl rfl rfl rfl, nS rfl rfl rfl rfl rfl rfl rfl rfl rfl, nS rfl rfl rfl rfl rfl rfl rfl rfl rfl, nQ rfl (by exact qW (pk rfl rfl rfl) rfl), trivial⟩) fun a w hS => ?_
     replace hS := hS.env2 (e' := [(0, qL MV 0), (1, .int .i64 MU), (2, .int .i64 MT), (7, .int .i64 MR), (39, .bool false)]) ⟨rfl, rfl, rfl, rfl, rfl, trivial⟩
     refine qe ?_
     exact M0 _ _ ⟨false, hS.to [0, 1] (by kernel_rfl) ⟨rfl, rfl, rfl, rfl, rfl, trivial⟩, hM⟩
   ·refine za (vals := [some (.int .i64 MR), some (.bool false), some (.bool false), some (undef), some (undef), some (undef), some (undef), some (undef), some (undef), some (undef), some (undef), some (undef), some (.bool false), some (.bool false), some (undef), some (undef), some (undef), some (undef), some (undef), some (undef), some (undef), some (undef), some (undef), some (undef), some (undef), some (undef), some (undef), some (undef), some (undef), some (undef), some (undef), some (.bool false)]) hS xG rfl ?_
    intro l w ho hcl hA hst
    refine ym hA hst ho hcl xH [0, 1, 2, 3, 4, 5, 6, 7, 8, 9, 10, 11, 12, 13, 14, 15, 16, 17, 18, 19, 20, 21, 22, 23, 24, 25, 26, 27, 28, 29, 30, 31] rfl rfl rfl (by exact ⟨nM rfl, nQ rfl (by exact qW (js rfl rfl rfl) (congrArg Value.bool MX)), nM rfl, nS rfl rfl rfl rfl rfl rfl rfl rfl rfl, nS rfl rfl rfl rfl rfl rfl rfl rfl rfl, nS rfl rfl rfl rfl rfl rfl rfl rfl rfl, nS rfl rfl rfl rfl rfl rfl rfl rfl rfl, nS rfl rfl rfl rfl rfl rfl rfl rfl rfl, nS rfl rfl rfl rfl rfl rfl rfl rfl rfl, nS rfl rfl rfl rfl rfl rfl rfl rfl rfl, nS rfl rfl rfl rfl rfl rfl rfl rfl rfl, nS rfl rfl rfl rfl rfl rfl rfl rfl rfl, nQ rfl (by exact qW (pk rfl rfl rfl) rfl), nM rfl, nS rfl rfl rfl rfl rfl rfl rfl rfl rfl, nS rfl rfl rfl rfl rfl rfl rfl rfl rfl, nS rfl rfl rfl rfl rfl rfl rfl rfl rfl, nS rfl rfl rfl rfl rfl rfl rfl rfl rfl, nS rfl rfl rfl rfl rfl rfl rfl rfl rfl, nS rfl rfl rfl rfl rfl rfl rfl rfl rfl, nS rfl rfl rfl rfl rfl rfl rfl rfl rfl, nS rfl rfl rfl rfl rfl rfl rfl rfl rfl, nS rfl rfl rfl rfl rfl rfl rfl rfl rfl, nS rfl rfl rfl rfl rfl rfl rfl rfl rfl, nS rfl rfl rfl rfl rfl rfl rfl rfl rfl, nS rfl rfl rfl rfl rfl rfl rfl rfl rfl, nS rfl rfl rfl rfl rfl rfl rfl rfl rfl, nS rfl rfl rfl rfl rfl rfl rfl rfl rfl, nS rfl rfl rfl rfl rfl rfl rfl rfl rfl, nS rfl rfl rfl rfl rfl rfl rfl rfl rfl, nS rfl rfl rfl rfl rfl rfl rfl rfl rfl, nQ rfl (by exact qW (pk rfl rfl rfl) rfl), trivial⟩) fun a w hS => ?_
    replace hS := hS.env2 (e' := [(0, qL MV 0), (1, .int .i64 MU), (2, .int .i64 MT), (7, .int .i64 MR), (39, .bool false)]) ⟨rfl, rfl, rfl, rfl, rfl, trivial⟩
    refine qe ?_
    exact M0 _ _ ⟨false, hS.to [0, 1] (by kernel_rfl) ⟨rfl, rfl, rfl, rfl, rfl, trivial⟩, hM⟩
  ·intro a w hI
   obtain ⟨M5, hS, hM⟩ := hI
   rw [zw.j2] at hM
   refine qF hS rfl hM (fun M9 hM => ?_) (fun M9 hM => ?_)
   ·refine wp_skip ?_
    refine qe <| xS <| zP <| sM hS rfl fun hS => sB hS rfl fun hS => zG (v := Value.int .i64) (x0 := (qh (MR + (1 : Int)))) hS (xD rfl) rfl fun Nc a w hz hS => ?_
    have hM := qB hz hM; clear hz
    refine zn <| zy (qe ?_)
    exact M8 _ _ ⟨Nc, hS.to [0, 1] (by kernel_rfl) ⟨rfl, rfl, rfl, rfl, trivial⟩, hM⟩
   ·refine wp_exit ?_
    refine qE (qE (zd (qe ?_)))
    refine qm <| sM hS rfl fun hS => sA hS rfl fun hS => qA <| wp_ret ?_
    exact zD (rs := [6]) hS rfl rfl (hret MR _ (q8 hM) (hS.st.pick [0, 1] (by kernel_rfl)))
theorem QR {H : xT} {F : List qk} {w : World} {R : Ending → World → Prop} {kr : (Int × Int) → Prop} {kp : Value → Prop} (hG : Gl H) (K : Nat) (MS : xn) (MR : Int) (MU : Nat) (M0 : qk) (M4 : Nat) (M3 : qk) (M6 : xM M0 MU ([xi MS.text_, .map (some M4)]) 55) (Nb : XH (K1 .u8) (K2 3) 3 (ci .i64) 1 M4 MS.seen_ M3)
    (hS : St w H [M0, M3] F) (hm : (zN.m K MS MR).wp kr kp)
    (hret : ∀ (Ng : Int) (M9 : Int) (w : World), kr (Ng, M9) → St w H [M0, M3] F → R (.returned (.agg ⟨[.int .u8 (0 : Int), .int .i64 Ng, .int .i64 M9]⟩)) w) :
    Calls Tryd.prog 26 ⟨[qL MU 0, .int .i64 MR]⟩ w R := by
 refine enter Tryd.func26 rfl Tryd.ntmps26 rfl hS fun a w hS => ?_
 have hM := hm; clear hm
 rw [zN.m] at hM
 refine qm <| QF ([.int .u8 (0 : Int), .int .i64 (0 : Int), .int .i64 (0 : Int)]) hS Tryd.zeroValue57 rfl rfl fun w Nk Nf Nm hS => qA <| qm <| QF ([.int .u8 (0 : Int), .int .i64 (0 : Int), .int .i64 (0 : Int)]) hS Tryd.zeroValue57 rfl rfl fun w M8 Ns Nn hS => qA <| wp_seq <| qm <| sM hS rfl fun hS => sB hS rfl fun hS => sM hS rfl fun hS => sO hS (yy rfl) rfl fun hS => sO hS (xv rfl Tryd.runUnderlying55 rfl Tryd.sizeOf9 rfl) rfl fun hS => sO hS (x5 2 rfl M6 rfl rfl Tryd.isAgg9) rfl fun hS => sO hS (ul rfl Tryd.runUnderlying9) rfl fun hS => sB hS rfl fun hS => qA <| qF hS rfl hM (fun Ny hM => ?_) (fun Ny hM => ?_)
 ·refine wp_seq ?_
  refine zP <| sO hS (uS 0 rfl Nn rfl ([.int .u8 (0 : Int), .int .i64 (0 : Int), .int .i64 (0 : Int)]) rfl rfl Tryd.isAgg57 Tryd.sizeOf57) rfl fun hS => QU 1 ([.int .u8 (0 : Int), .int .i64 (0 : Int), .int .i64 (0 : Int)]) ([.int .u8 (0 : Int), .int .i64 (0 : Int), .int .i64 (0 : Int)]) hS rfl rfl Nm rfl rfl Tryd.sizeOf57 (by simp [Value.oneCell']) (Nat.le_of_ble_eq_true rfl) rfl fun w NG Nu hS => qA <| wp_ret <| zl ?_
  exact jk (vs := [.agg ⟨[.int .u8 (0 : Int), .int .i64 (0 : Int), .int .i64 (0 : Int)]⟩]) hS rfl (by exact ⟨Kf 1 ([.int .u8 (0 : Int), .int .i64 (0 : Int), .int .i64 (0 : Int)]) rfl Nu rfl rfl rfl Tryd.isAgg57 Tryd.sizeOf57, trivial⟩) (hret (0 : Int) (0 : Int) _ (q8 hM) (hS.st.pick [2, 3] (by kernel_rfl)))
 ·refine wp_skip ?_
  refine qe <| wp_seq <| za (vals := [some (qL MU 0), some (qL MU 0), some (qL MU 1), some (.map (some M4)), some (qL MU 0), some (.int .i64 MR), none, none, none]) hS xG rfl ?_
  intro l w ho hcl hA hst
  refine jg hA hst ho hcl xx xH 6 [0, 1, 2, 3, 4, 5] rfl rfl rfl rfl rfl (by exact ⟨nM rfl, nQ rfl (by exact qW (yy rfl) rfl), nQ rfl (by exact qW (xv rfl Tryd.runUnderlying55 rfl Tryd.sizeOf53 rfl) rfl), nQ rfl (by exact qW (x5 2 rfl M6 rfl rfl Tryd.isAgg53) rfl), nM rfl, nM rfl, trivial⟩) fun D l a w ho hcl hav hpre hm hE hk hA hst => ?_
  have hS := (Ss.mk hE hst).env2 (e' := [(23, qL MU 0), (24, .int .i64 MR)]) ⟨rfl, rfl, trivial⟩
  refine qQ rfl <| qJ hS rfl Tryd.call47 (ug hG K MS MR MU M0 M4 M3 M6 Nb (hS.st.part 2 [2, 3, 0, 1] (by kernel_rfl)) (qt hM) (fun  w hM  hst => qz hS.ev hst.appF rfl fun hS => ?_))
  replace hS : Ss _ _ _ H [M0, M3, Ns, Nf] F _ _ := hS
  refine qA ?_
  replace hst := hS.st
  obtain ⟨hcl, hmust, hav2, hA⟩ := dn (vals' := [some (qL MU 0), some (qL MU 0), some (qL MU 1), some (.map (some M4)), some (qL MU 0), some (.int .i64 MR), some (.agg ⟨([((rd MS.text_ MR).toNat : Int), ((rd MS.text_ (qh (MR + (1 : Int)))).toNat : Int), ((rd MS.text_ (qh (MR + (2 : Int)))).toNat : Int)] : List Int).flatMap (ci .u8)⟩), none, none]) 6 [(4, 6), (5, 6)] hA hcl hav hm hpre hk rfl rfl rfl rfl rfl rfl rfl
  clear hm hav
  refine jg hA hst ho hcl hav2 hmust 7 [0, 1, 2, 3] rfl rfl rfl rfl rfl (by exact ⟨nM rfl, nQ rfl (by exact qW (yy rfl) rfl), nQ rfl (by exact qW (xv rfl Tryd.runUnderlying55 rfl Tryd.sizeOf53 rfl) rfl), nQ rfl (by exact qW (x5 0 rfl M6 rfl rfl Tryd.isAgg53) rfl), trivial⟩) fun D l a w ho hcl hav hpre hm hE hk hA hst => ?_
  have hS := (Ss.mk hE hst).env2 (e' := [(22, .map (some M4)), (25, .agg ⟨([((rd MS.text_ MR).toNat : Int), ((rd MS.text_ (qh (MR + (1 : Int)))).toNat : Int), ((rd MS.text_ (qh (MR + (2 : Int)))).toNat : Int)] : List Int).flatMap (ci .u8)⟩)]) ⟨rfl, rfl, trivial⟩
  refine qQ rfl <| MD (kv := K1 .u8) (ok := K2 3) (E := 3) (g := (ci .i64)) (sz := 1) (q := ([((rd MS.text_ MR).toNat : Int), ((rd MS.text_ (qh (MR + (1 : Int)))).toNat : Int), ((rd MS.text_ (qh (MR + (2 : Int)))).toNat : Int)] : List Int)) 1 hS rfl rfl rfl rfl Nb rfl (Bz Tryd.runUnderlying100 Tryd.runUnderlying5 Tryd.sizeOf5 Tryd.isAgg5) Tryd.runUnderlying53 Tryd.zeroValue66 (fun _ => rfl) rfl rfl fun MY Nc Nd w hz Nr ND hS => ?_
  have hM := qB hz hM; clear hz
  refine qA ?_
  replace hst := hS.st
  obtain ⟨hcl, hmust, hav2, hA⟩ := dn (vals' := [some (qL MU 0), some (qL MU 0), some (qL MU 1), some (.map (some M4)), some (qL MU 0), some (.int .i64 MR), some (.agg ⟨([((rd MS.text_ MR).toNat : Int), ((rd MS.text_ (qh (MR + (1 : Int)))).toNat : Int), ((rd MS.text_ (qh (MR + (2 : Int)))).toNat : Int)] : List Int).flatMap (ci .u8)⟩), some (.slice Nc MY.length Nd), some (.slice Nc MY.length Nd)]) 7 [(3, 7), (6, 7), (2, 3), (4, 6), (5, 6), (1, 2), (0, 1)] hA hcl hav hm hpre hk rfl rfl rfl rfl rfl rfl rfl
  clear hm hav
  refine ym hA hst ho hcl hmust [8] rfl rfl rfl (by exact ⟨nA rfl, trivial⟩) fun a w hS => ?_
  replace hS := hS.env2 (e' := [(0, qL MU 0), (1, .int .i64 MR), (4, qL Nk 0), (5, qL M8 0), (6, .slice Nc MY.length Nd)]) ⟨rfl, rfl, rfl, rfl, rfl, trivial⟩
  refine qe <| zm (fun a w => ∃ (MW : Int) (MV : Int) (Nl : qk), Ss 63 [] [(4, qL Nk 0), (5, qL M8 0)] H [M0, M3, Nf, Nl] F a w ∧ (xM Nl M8 ([.int .u8 (0 : Int), .int .i64 MW, .int .i64 MV]) 57) ∧ (zN.j2 K MW MV).wp kr kp) (fun NF Np => ?_) ?_
  ·refine wp_seq ?_
   refine zP <| sA hS rfl fun hS => qA <| xS <| zv (fun Nt a w => ∃ (MZ : Int) (MX : Int) (M5 : qk) (MT : Int), Ss 63 [] [(0, qL MU 0), (1, .int .i64 MR), (4, qL Nk 0), (5, qL M8 0), (6, .slice Nc MY.length Nd), (7, .int .i64 MT)] H [M0, M3, Nf, M5] F a w ∧ (xM M5 M8 ([.int .u8 (0 : Int), .int .i64 MZ, .int .i64 MX]) 57) ∧ (zN.l1 K MS MR MY Nt MZ MX MT).wp kr kp) K ?_ ?_ ?_
   ·exact ⟨(0 : Int), (0 : Int), Ns, (0 : Int), hS.to [0, 1, 3, 2] (by kernel_rfl) ⟨rfl, rfl, rfl, rfl, rfl, rfl, trivial⟩, Nn, hM⟩
   ·intro a w hI; obtain ⟨_, _, _, _, _, _, hM⟩ := hI; exact zt hM
   ·intro Nt a w hI NE No
    obtain ⟨MZ, MX, M5, MT, hS, M7, hM⟩ := hI
    rw [zN.l1] at hM
    refine wp_seq <| qm <| sM hS rfl fun hS => sB hS rfl fun hS => sM hS rfl fun hS => yJ 4 true 29 (b := (decide (MT < (32 : Int)))) (r := (decide (MT < (MY.length : Int)))) hS rfl rfl rfl rfl rfl rfl rfl (fun hb a w hS K hK => ?_) rfl fun a w hS => ?_
    ·refine zW hS rfl rfl rfl hb (mv rfl) rfl fun a w hS => ?_
     refine zW hS rfl rfl rfl hb (mv rfl) rfl fun a w hS => zW hS rfl rfl rfl hb (yk rfl Tryd.runUnderlying66) rfl fun a w hS => zW hS rfl rfl rfl hb (js rfl rfl rfl) rfl fun a w hS => ?_
     exact zn (hK _ _ (hS.up 4 rfl rfl))
    refine qA <| qF hS rfl hM (fun Nz hM => ?_) (fun Nz hM => ?_)
    ·refine wp_skip ?_
     refine qe <| wp_seq <| xS <| qm <| sM hS rfl fun hS => sM hS rfl fun hS => sO hS (yk rfl Tryd.runUnderlying66) rfl fun hS => sB hS rfl fun hS => sM hS rfl fun hS => sB hS rfl fun hS => ?_
     obtain ⟨Nq, hM⟩ := qK hM
     refine sO hS (yv rfl rfl Tryd.runUnderlying66 Tryd.sizeOf3 (Nr.rd (i := 1) rfl) (fun _ => rfl) rfl Nq) rfl fun hS => sO hS (yG rfl (Nr.rd (i := 1) rfl) (fun _ => rfl) Nq rfl Tryd.isAgg3) rfl fun hS => zG (v := Value.int .i64) (x0 := (rd MY (qh ((qh ((MY.length : Int) - (1 : Int))) - MT)))) hS (xD rfl) rfl fun Na a w hz hS => ?_
     have hM := qB hz hM; clear hz
     refine qA <| wp_seq <| qm <| sM hS rfl fun hS => sM hS rfl fun hS => sB hS rfl fun hS => sB hS rfl fun hS => qA <| qF hS rfl hM (fun NA hM => ?_) (fun NA hM => ?_)
     ·refine wp_exit ?_
      refine qE (Bd rfl (qE (qE (zd (qe ?_)))))
      exact Np _ _ ⟨MZ, MX, M5, hS.to [0, 1, 2, 3] (by kernel_rfl) ⟨rfl, rfl, trivial⟩, M7, hM⟩
     ·refine wp_skip ?_
      refine qe <| qm <| sM hS rfl fun hS => sM hS rfl fun hS => sM hS rfl fun hS => qJ hS rfl Tryd.call48 (QS hG K MS Na MR MU M0 M4 M3 M6 Nb (hS.st.part 2 [0, 1, 2, 3] (by kernel_rfl)) (qt hM) (fun Nh w hM  hst => qz hS.ev hst.appF rfl fun hS => ?_))
      replace hS : Ss _ _ _ H [M0, M3, Nf, M5] F _ _ := hS
      refine sA hS rfl fun hS => qA <| qm <| sM hS rfl fun hS => sO hS (xv rfl Tryd.runUnderlying57 rfl Tryd.sizeOf3 rfl) rfl fun hS => sO hS (x5 3 rfl M7 rfl rfl Tryd.isAgg3) rfl fun hS => sB hS rfl fun hS => qA <| qF hS rfl hM (fun NB hM => ?_) (fun NB hM => ?_)
      ·refine zP ?_
       refine sM hS rfl fun hS => sM hS rfl fun hS => sM hS rfl fun hS => sB hS rfl fun hS => sO hS (Xr ([.int .u8 (0 : Int), .int .i64 Nh, .int .i64 (qh (MR - Na))]) [(0, 1), (1, 1), (2, 1)] Tryd.zeroValue57 Tryd.runUnderlying57 (by intro w; simp [Tryd.sizeOf3, Tryd.sizeOf5]) rfl rfl) rfl fun hS => QU 3 ([.int .u8 (0 : Int), .int .i64 Nh, .int .i64 (qh (MR - Na))]) ([.int .u8 (0 : Int), .int .i64 Nh, .int .i64 (qh (MR - Na))]) hS rfl rfl M7 rfl rfl Tryd.sizeOf57 (by simp [Value.oneCell']) (Nat.le_of_ble_eq_true rfl) rfl fun w NC Nv hS => zn <| zy (qe ?_)
       refine zP <| sM hS rfl fun hS => sB hS rfl fun hS => zG (v := Value.int .i64) (x0 := (qh (MT + (1 : Int)))) hS (xD rfl) rfl fun Ni a w hz hS => ?_
       have hM := qB hz hM; clear hz
       refine zn <| qe ?_
       exact No _ _ ⟨Nh, (qh (MR - Na)), NC, Ni, hS.to [0, 1, 2, 3] (by kernel_rfl) ⟨rfl, rfl, rfl, rfl, rfl, rfl, trivial⟩, Nv, hM⟩
      ·refine wp_skip ?_
       refine zy (qe ?_)
       refine zP <| sM hS rfl fun hS => sB hS rfl fun hS => zG (v := Value.int .i64) (x0 := (qh (MT + (1 : Int)))) hS (xD rfl) rfl fun Nj a w hz hS => ?_
       have hM := qB hz hM; clear hz
       refine zn <| qe ?_
       exact No _ _ ⟨MZ, MX, M5, Nj, hS.to [0, 1, 2, 3] (by kernel_rfl) ⟨rfl, rfl, rfl, rfl, rfl, rfl, trivial⟩, M7, hM⟩
    ·refine wp_exit ?_
     refine qE (qE (zd (qe ?_)))
     exact Np _ _ ⟨MZ, MX, M5, hS.to [0, 1, 2, 3] (by kernel_rfl) ⟨rfl, rfl, trivial⟩, M7, hM⟩
  ·intro a w hI
   obtain ⟨MW, MV, Nl, hS, Nw, hM⟩ := hI
   rw [zN.j2] at hM
   refine qm <| sO hS (uS 3 rfl Nw rfl ([.int .u8 (0 : Int), .int .i64 MW, .int .i64 MV]) rfl rfl Tryd.isAgg57 Tryd.sizeOf57) rfl fun hS => QU 2 ([.int .u8 (0 : Int), .int .i64 MW, .int .i64 MV]) ([.int .u8 (0 : Int), .int .i64 MW, .int .i64 MV]) hS rfl rfl Nm rfl rfl Tryd.sizeOf57 (by simp [Value.oneCell']) (Nat.le_of_ble_eq_true rfl) rfl fun w NH Nx hS => qA <| wp_ret ?_
   exact jk (vs := [.agg ⟨[.int .u8 (0 : Int), .int .i64 MW, .int .i64 MV]⟩]) hS rfl (by exact ⟨Kf 2 ([.int .u8 (0 : Int), .int .i64 MW, .int .i64 MV]) rfl Nx rfl rfl rfl Tryd.isAgg57 Tryd.sizeOf57, trivial⟩) (hret MW MV _ (q8 hM) (hS.st.pick [0, 1] (by kernel_rfl)))
theorem QT {H : xT} {F : List qk} {w : World} {R : Ending → World → Prop} {kr : (List ((List Int) × (List Int))) → Prop} {kp : Value → Prop} (hG : Gl H) (K : Nat) (MR : xn) (MS : Int) (MT : Nat) (M5 : qk) (MU : Nat) (M6 : qk) (MZ : xM M5 MT ([xi MR.text_, .map (some MU)]) 55) (M8 : XH (K1 .u8) (K2 3) 3 (ci .i64) 1 MU MR.seen_ M6)
    (hS : St w H [M5, M6] F) (hm : (yF.m K MR MS).wp kr kp)
    (hret : ∀ (M7 : (List ((List Int) × (List Int)))) (Nc : qk) (w : World), kr M7 → (XH (K1 .u8) (K2 3) 3 (ci .i64) 1 MU M7 Nc) → St w H [M5, Nc] F → R (.returned (.tuple ⟨[]⟩)) w) :
    Calls Tryd.prog 27 ⟨[qL MT 0, .int .i64 MS]⟩ w R := by
 refine enter Tryd.func27 rfl Tryd.ntmps27 rfl hS fun a w hS => ?_
 have hM := hm; clear hm
 rw [yF.m] at hM
 refine qm <| sM hS rfl fun hS => sB hS rfl fun hS => sM hS rfl fun hS => sO hS (yy rfl) rfl fun hS => sO hS (xv rfl Tryd.runUnderlying55 rfl Tryd.sizeOf9 rfl) rfl fun hS => sO hS (x5 0 rfl MZ rfl rfl Tryd.isAgg9) rfl fun hS => sO hS (ul rfl Tryd.runUnderlying9) rfl fun hS => sB hS rfl fun hS => qA <| qF hS rfl hM (fun Nk hM => ?_) (fun Nk hM => ?_)
 ·refine wp_seq ?_
  refine zP <| sM hS rfl fun hS => sM hS rfl fun hS => qJ hS rfl Tryd.call47 (ug hG K MR MS MT M5 MU M6 MZ M8 (hS.st.part 2 [0, 1] (by kernel_rfl)) (qt hM) (fun  w hM  hst => qz hS.ev hst.appF rfl fun hS => ?_))
  replace hS : Ss _ _ _ H [M5, M6] F _ _ := hS
  refine QF ((List.replicate 3 (0 : Int)).flatMap (ci .u8)) hS Tryd.zeroValue100 rfl rfl fun w Nm Nq Nd hS => YI (xs := (List.replicate 3 (0 : Int))) (ys := ([((rd MR.text_ MS).toNat : Int), ((rd MR.text_ (qh (MS + (1 : Int)))).toNat : Int), ((rd MR.text_ (qh (MS + (2 : Int)))).toNat : Int)] : List Int)) (g := (ci .u8)) (pre := []) (post := []) 0 hS rfl rfl Nd rfl (by simp) rfl (xf (g := (ci .u8)) (sz := 1) (fun _ => rfl) (List.length_replicate ..)) (xf (g := (ci .u8)) (sz := 1) (fun _ => rfl) rfl) (Qv) Tryd.sizeOf100 fun w Nn M0 hS => ?_
  replace M0 : xM Nn Nm (([((rd MR.text_ MS).toNat : Int), ((rd MR.text_ (qh (MS + (1 : Int)))).toNat : Int), ((rd MR.text_ (qh (MS + (2 : Int)))).toNat : Int)] : List Int).flatMap (ci .u8)) 100 := by simpa using M0
  refine qA <| za (vals := [some (qL MT 0), some (qL MT 0), some (qL MT 1), some (.map (some MU)), some (.agg ⟨([((rd MR.text_ MS).toNat : Int), ((rd MR.text_ (qh (MS + (1 : Int)))).toNat : Int), ((rd MR.text_ (qh (MS + (2 : Int)))).toNat : Int)] : List Int).flatMap (ci .u8)⟩), some (.int .i64 MS), none, none, none, none, none, none]) hS xG rfl ?_
  intro l w ho hcl hA hst
  refine jg hA hst ho hcl xx xH 6 [0, 1, 2, 3, 4, 5] rfl rfl rfl rfl rfl (by exact ⟨nM rfl, nQ rfl (by exact qW (yy rfl) rfl), nQ rfl (by exact qW (xv rfl Tryd.runUnderlying55 rfl Tryd.sizeOf53 rfl) rfl), nQ rfl (by exact qW (x5 1 rfl MZ rfl rfl Tryd.isAgg53) rfl), nQ rfl (by exact qW (YG (xs := ([((rd MR.text_ MS).toNat : Int), ((rd MR.text_ (qh (MS + (1 : Int)))).toNat : Int), ((rd MR.text_ (qh (MS + (2 : Int)))).toNat : Int)] : List Int)) (g := (ci .u8)) (pre := []) (post := []) 0 rfl M0 rfl (by simp) rfl (xf (g := (ci .u8)) (sz := 1) (fun _ => rfl) rfl) Tryd.isAgg100 Tryd.sizeOf100) rfl), nM rfl, trivial⟩) fun D l a w ho hcl hav hpre hm hE hk hA hst => ?_
  have hS := (Ss.mk hE hst).env2 (e' := [(22, .int .i64 MS)]) ⟨rfl, trivial⟩
  refine qQ rfl <| J2 (g := (ci .i64)) ([MS] : List Int) [.int .i64 MS] hS Tryd.runUnderlying66 Tryd.sizeOf3 X.el3 rfl rfl rfl (by simp [Value.cells]) rfl rfl rfl rfl rfl fun w M3 M4 Nr Nh hS => qA ?_
  replace hst := hS.st
  obtain ⟨hcl, hmust, hav2, hA⟩ := dn (vals' := [some (qL MT 0), some (qL MT 0), some (qL MT 1), some (.map (some MU)), some (.agg ⟨([((rd MR.text_ MS).toNat : Int), ((rd MR.text_ (qh (MS + (1 : Int)))).toNat : Int), ((rd MR.text_ (qh (MS + (2 : Int)))).toNat : Int)] : List Int).flatMap (ci .u8)⟩), some (.int .i64 MS), some (.slice M3 ([MS] : List Int).length M4), none, none, none, none, none]) 6 [(5, 6)] hA hcl hav hm hpre hk rfl rfl rfl rfl rfl rfl rfl
  clear hm hav
  refine jg hA hst ho hcl hav2 hmust 7 [0, 1, 2, 3, 4] rfl rfl rfl rfl rfl (by exact ⟨nM rfl, nQ rfl (by exact qW (yy rfl) rfl), nQ rfl (by exact qW (xv rfl Tryd.runUnderlying55 rfl Tryd.sizeOf53 rfl) rfl), nQ rfl (by exact qW (x5 2 rfl MZ rfl rfl Tryd.isAgg53) rfl), nQ rfl (by exact qW (YG (xs := ([((rd MR.text_ MS).toNat : Int), ((rd MR.text_ (qh (MS + (1 : Int)))).toNat : Int), ((rd MR.text_ (qh (MS + (2 : Int)))).toNat : Int)] : List Int)) (g := (ci .u8)) (pre := []) (post := []) 1 rfl M0 rfl (by simp) rfl (xf (g := (ci .u8)) (sz := 1) (fun _ => rfl) rfl) Tryd.isAgg100 Tryd.sizeOf100) rfl), trivial⟩) fun D l a w ho hcl hav hpre hm hE hk hA hst => ?_
  have hS := (Ss.mk hE hst).env2 (e' := [(19, .map (some MU)), (20, .agg ⟨([((rd MR.text_ MS).toNat : Int), ((rd MR.text_ (qh (MS + (1 : Int)))).toNat : Int), ((rd MR.text_ (qh (MS + (2 : Int)))).toNat : Int)] : List Int).flatMap (ci .u8)⟩)]) ⟨rfl, rfl, trivial⟩
  refine qQ rfl ?_
  replace hS := hS.front [3, 0, 1, 2] (by kernel_rfl)
  refine ME (kv := K1 .u8) (ok := K2 3) (E := 3) (g := (ci .i64)) (sz := 1) (q := ([((rd MR.text_ MS).toNat : Int), ((rd MR.text_ (qh (MS + (1 : Int)))).toNat : Int), ((rd MR.text_ (qh (MS + (2 : Int)))).toNat : Int)] : List Int)) hS rfl rfl rfl rfl M8 (Bz Tryd.runUnderlying100 Tryd.runUnderlying5 Tryd.sizeOf5 Tryd.isAgg5) Tryd.runUnderlying53 Tryd.zeroValue66 rfl fun MV w MW MX MY Ns Nt hz Ni Nf hS => ?_
  have hM := qB hz hM; clear hz
  refine qA ?_
  replace hst := hS.st
  obtain ⟨hcl, hmust, hav2, hA⟩ := dn (vals' := [some (qL MT 0), some (qL MT 0), some (qL MT 1), some (.map (some MU)), some (.agg ⟨([((rd MR.text_ MS).toNat : Int), ((rd MR.text_ (qh (MS + (1 : Int)))).toNat : Int), ((rd MR.text_ (qh (MS + (2 : Int)))).toNat : Int)] : List Int).flatMap (ci .u8)⟩), some (.int .i64 MS), some (.slice M3 ([MS] : List Int).length M4), some (.tuple ⟨[.slice MW MV.length MX, .int .i64 ((MY : Nat) : Int)]⟩), some (.slice MW MV.length MX), none, some (.int .i64 ((MY : Nat) : Int)), none]) 7 [(0, 7), (1, 7), (2, 7), (3, 7), (4, 7), (5, 7), (6, 7)] hA hcl hav hm hpre hk rfl rfl rfl rfl rfl rfl rfl
  clear hm hav
  refine jg hA hst ho hcl hav2 hmust 9 [8, 10] rfl rfl rfl rfl rfl (by exact ⟨nQ rfl (by exact qW (ex rfl rfl) rfl), nQ rfl (by exact qW (ex rfl rfl) rfl), trivial⟩) fun D l a w ho hcl hav hpre hm hE hk hA hst => ?_
  have hS := (Ss.mk hE hst).env2 (e' := [(21, .slice MW MV.length MX), (23, .slice M3 ([MS] : List Int).length M4)]) ⟨rfl, rfl, trivial⟩
  refine qQ rfl ?_
  obtain ⟨Nl, hM⟩ := qK hM
  refine J1 (ys := ([MS] : List Int)) 0 hS rfl rfl Ni rfl (Nh.rd (i := 2) rfl) Tryd.runUnderlying66 Tryd.runUnderlying66 X.el3 (fun _ => rfl) rfl xJ Nl rfl fun M9 w Na Nb Nu hz Nj hS => ?_
  have hM := qB hz hM; clear hz
  refine qA ?_
  replace hst := hS.st
  obtain ⟨hcl, hmust, hav2, hA⟩ := dn (vals' := [some (qL MT 0), some (qL MT 0), some (qL MT 1), some (.map (some MU)), some (.agg ⟨([((rd MR.text_ MS).toNat : Int), ((rd MR.text_ (qh (MS + (1 : Int)))).toNat : Int), ((rd MR.text_ (qh (MS + (2 : Int)))).toNat : Int)] : List Int).flatMap (ci .u8)⟩), some (.int .i64 MS), some (.slice M3 ([MS] : List Int).length M4), some (.tuple ⟨[.slice MW MV.length MX, .int .i64 ((MY : Nat) : Int)]⟩), some (.slice MW MV.length MX), some (.slice Na M9.length Nb), some (.int .i64 ((MY : Nat) : Int)), none]) 9 [(6, 9), (7, 9), (8, 9), (5, 6), (0, 7), (1, 7), (2, 7), (3, 7), (4, 7)] hA hcl hav hm hpre hk rfl rfl rfl rfl rfl rfl rfl
  clear hm hav
  refine jg hA hst ho hcl hav2 hmust 11 [10] rfl rfl rfl rfl rfl (by exact ⟨nQ rfl (by exact qW (ex rfl rfl) rfl), trivial⟩) fun D l a w ho hcl hav hpre hm hE hk hA hst => ?_
  have hS := (Ss.mk hE hst).env2 (e' := [(19, .map (some MU)), (25, .slice Na M9.length Nb), (26, .int .i64 ((MY : Nat) : Int))]) ⟨rfl, rfl, rfl, trivial⟩
  refine qQ rfl ?_
  replace hS := hS.front [0, 1, 2, 3, 4] (by kernel_rfl)
  refine My (kv := K1 .u8) (ok := K2 3) (E := 3) (g := (ci .i64)) (sz := 1) hS rfl rfl rfl Nj Nf fun Np w No hz Ng hS => ?_
  have hM := qB hz hM; clear hz
  refine qA ?_
  replace hst := hS.st
  obtain ⟨hcl, hmust, hav2, hA⟩ := XQ (vals' := [some (qL MT 0), some (qL MT 0), some (qL MT 1), some (.map (some MU)), some (.agg ⟨([((rd MR.text_ MS).toNat : Int), ((rd MR.text_ (qh (MS + (1 : Int)))).toNat : Int), ((rd MR.text_ (qh (MS + (2 : Int)))).toNat : Int)] : List Int).flatMap (ci .u8)⟩), some (.int .i64 MS), some (.slice M3 ([MS] : List Int).length M4), some (.tuple ⟨[.slice MW MV.length MX, .int .i64 ((MY : Nat) : Int)]⟩), some (.slice MW MV.length MX), some (.slice Na M9.length Nb), some (.int .i64 ((MY : Nat) : Int)), some undef]) 11 [(0, 11), (1, 11), (2, 11), (3, 11), (4, 11), (5, 11), (6, 11), (7, 11), (8, 11), (9, 11), (10, 11)] hA hcl hav hm hpre rfl rfl rfl rfl rfl
  clear hm hav
  refine ym hA hst ho hcl hmust [] rfl rfl rfl trivial fun a w hS => ?_
  replace hS := hS.env2 (e' := []) trivial
  exact jR (rs := []) hS rfl rfl (hret Np No _ (q8 hM) Ng (hS.st.pick [3, 0] (by kernel_rfl)))
 ·refine wp_skip ?_
  exact jR (rs := []) hS rfl rfl (hret MR.seen_ M6 _ (q8 hM) M8 (hS.st.pick [0, 1] (by kernel_rfl)))
theorem JL {H : xT} {F : List qk} {w : World} {R : Ending → World → Prop} {kr : (List qM) → Prop} {kp : Value → Prop} (hG : Gl H) (K : Nat) (MR : List UInt8)
    (hS : St w H [] F) (hm : (zV.m K MR).wp kr kp)
    (hret : ∀ (Ns : Option Addr) (Nv : Nat) (Nq : (List qM)) (Nx : qk) (w : World), kr Nq → (xj 57 qM.cells 3 Ns Nq Nv Nx) → St w H [Nx] F → R (.returned (.slice Ns Nq.length Nv)) w) :
    Calls Tryd.prog 14 ⟨[xi MR]⟩ w R := by
 refine enter Tryd.func14 rfl Tryd.ntmps14 rfl hS fun a w hS => ?_
 have hM := hm; clear hm
 rw [zV.m] at hM
 refine qm <| sA hS rfl fun hS => ?_
 obtain ⟨NY, NS, hS⟩ := hS.nilV 57 qM.cells 3
 refine qA <| qm <| sM hS rfl fun hS => MF (kv := K1 .u8) (ok := K2 3) (E := 3) (g := (ci .i64)) (sz := 1) hS rfl fun w M4 NM ND hS => sO hS (Xr ([xi MR, .map (some M4)]) [(0, 1), (1, 1)] Tryd.zeroValue55 Tryd.runUnderlying55 (by intro w; simp [Tryd.sizeOf53, Tryd.sizeOf9]) rfl rfl) rfl fun hS => bx ([xi MR, .map (some M4)]) hS rfl rfl rfl fun w M9 M0 Nj hS => sA hS rfl fun hS => qA <| qm <| sA hS rfl fun hS => ?_
 obtain ⟨NN, NE, hS⟩ := hS.nilV 57 qM.cells 3
 refine qA <| wp_seq <| qm <| sA hS rfl fun hS => qA <| xS <| zv (fun Nf a w => ∃ (MU : (List ((List Int) × (List Int)))) (M3 : qk) (M8 : Option Addr) (Na : Nat) (MY : (List qM)) (M5 : qk) (MW : Int), Ss 41 [] [(0, xi MR), (3, qL M9 0), (4, .slice M8 MY.length Na), (5, .int .i64 MW)] H [M0, M3, M5] F a w ∧ (XH (K1 .u8) (K2 3) 3 (ci .i64) 1 M4 MU M3) ∧ (xj 57 qM.cells 3 M8 MY Na M5) ∧ (zV.l1 K MR Nf MU MY MW).wp kr kp) K ?_ ?_ ?_
 ·exact ⟨([] : List ((List Int) × (List Int))), NM, none, 0, ([] : List qM), NN, (0 : Int), hS.to [1, 2, 0] (by kernel_rfl) ⟨rfl, rfl, rfl, rfl, trivial⟩, ND, NE, hM⟩
 ·intro a w hI; obtain ⟨_, _, _, _, _, _, _, _, _, _, hM⟩ := hI; exact zt hM
 ·intro Nf a w hI NW NC
  obtain ⟨MU, M3, M8, Na, MY, M5, MW, hS, Nm, No, hM⟩ := hI
  rw [zV.l1] at hM
  refine wp_seq <| qm <| sM hS rfl fun hS => sM hS rfl fun hS => sO hS (ul rfl Tryd.runUnderlying9) rfl fun hS => sB hS rfl fun hS => qA <| qF hS rfl hM (fun NH hM => ?_) (fun NH hM => ?_)
  ·refine wp_skip ?_
   refine qe <| xS <| qm <| sM hS rfl fun hS => sM hS rfl fun hS => qJ hS rfl Tryd.call26 (QR hG K (xn.mk MR MU) MW M9 M0 M4 M3 Nj Nm (hS.st.part 2 [0, 1, 2] (by kernel_rfl)) (qt hM) (fun M7 MZ w hM  hst => qz hS.ev hst.appF rfl fun hS => ?_))
   replace hS : Ss _ _ _ H [M0, M3, M5] F _ _ := hS
   refine QF ([.int .u8 (0 : Int), .int .i64 (0 : Int), .int .i64 (0 : Int)]) hS Tryd.zeroValue57 rfl rfl fun w Nt NZ Nz hS => QU 0 ([.int .u8 (0 : Int), .int .i64 M7, .int .i64 MZ]) ([.int .u8 (0 : Int), .int .i64 M7, .int .i64 MZ]) hS rfl rfl Nz rfl rfl Tryd.sizeOf57 (by simp [Value.oneCell']) (Nat.le_of_ble_eq_true rfl) rfl fun w NO Nc hS => qA <| zm (fun a w => ∃ (MV : Int) (MS : Int) (MT : Int) (Nh : qk), Ss 41 [] [(0, xi MR), (3, qL M9 0), (4, .slice M8 MY.length Na), (5, .int .i64 MW), (6, qL Nt 0)] H [M0, M3, M5, Nh] F a w ∧ (xM Nh Nt ([.int .u8 MV, .int .i64 MS, .int .i64 MT]) 57) ∧ (zV.j2 K (zV.l1 K MR Nf) MR MU MY MW MV MS MT).wp kr kp) (fun NU Nl => ?_) ?_
   ·refine wp_seq ?_
    refine zP <| sO hS (xv rfl Tryd.runUnderlying57 rfl Tryd.sizeOf3 rfl) rfl fun hS => sO hS (x5 0 rfl Nc rfl rfl Tryd.isAgg3) rfl fun hS => sB hS rfl fun hS => qA <| qF hS rfl hM (fun NI hM => ?_) (fun NI hM => ?_)
    ·refine zP ?_
     refine sM hS rfl fun hS => sM hS rfl fun hS => ?_
     obtain ⟨NK, hM⟩ := qK hM
     refine sO hS (U2 rfl rfl Tryd.runUnderlying9 NK) rfl fun hS => sO hS (Xr ([.int .u8 ((rd MR MW).toNat : Int), .int .i64 (0 : Int), .int .i64 (0 : Int)]) [(0, 1), (1, 1), (2, 1)] Tryd.zeroValue57 Tryd.runUnderlying57 (by intro w; simp [Tryd.sizeOf3, Tryd.sizeOf5]) rfl rfl) rfl fun hS => QU 0 ([.int .u8 ((rd MR MW).toNat : Int), .int .i64 (0 : Int), .int .i64 (0 : Int)]) ([.int .u8 ((rd MR MW).toNat : Int), .int .i64 (0 : Int), .int .i64 (0 : Int)]) hS rfl rfl Nc rfl rfl Tryd.sizeOf57 (by simp [Value.oneCell']) (Nat.le_of_ble_eq_true rfl) rfl fun w NP NA hS => zn <| qe ?_
     exact Nl _ _ ⟨((rd MR MW).toNat : Int), (0 : Int), (0 : Int), NP, hS.to [1, 2, 3, 0] (by kernel_rfl) ⟨rfl, rfl, rfl, rfl, rfl, trivial⟩, NA, hM⟩
    ·refine wp_skip ?_
     refine qe ?_
     exact Nl _ _ ⟨(0 : Int), M7, MZ, NO, hS.to [1, 2, 3, 0] (by kernel_rfl) ⟨rfl, rfl, rfl, rfl, rfl, trivial⟩, Nc, hM⟩
   ·intro a w hI
    obtain ⟨MV, MS, MT, Nh, hS, Nk, hM⟩ := hI
    rw [zV.j2] at hM
    refine qm <| sM hS rfl fun hS => sO hS (uS 3 rfl Nk rfl ([.int .u8 MV, .int .i64 MS, .int .i64 MT]) rfl rfl Tryd.isAgg57 Tryd.sizeOf57) rfl fun hS => J2 (g := qM.cells) ([(qM.mk MV MS MT)] : List qM) [.agg ⟨[.int .u8 MV, .int .i64 MS, .int .i64 MT]⟩] hS Tryd.runUnderlying37 Tryd.sizeOf57 X.el57 rfl rfl rfl (by simp [Value.cells]) rfl rfl rfl rfl rfl fun w NT NX N0 NF hS => ?_
    obtain ⟨NL, hM⟩ := qK hM
    refine J1 (ys := ([(qM.mk MV MS MT)] : List qM)) 3 hS rfl rfl No rfl (NF.rd (i := 0) rfl) Tryd.runUnderlying37 Tryd.runUnderlying37 X.el57 (fun _ => rfl) rfl DZ NL rfl fun Nd w Nr Nu Ni hz NG hS => ?_
    have hM := qB hz hM; clear hz
    refine sA hS rfl fun hS => qA <| qm <| sO hS (xv rfl Tryd.runUnderlying57 rfl Tryd.sizeOf3 rfl) rfl fun hS => sO hS (x5 4 rfl Nk rfl rfl Tryd.isAgg3) rfl fun hS => sO hS (DT rfl rfl) rfl fun hS => sM hS rfl fun hS => qA <| xS <| zv (fun Ny a w => ∃ (MX : (List ((List Int) × (List Int)))) (Nb : qk) (M6 : Int) (Ng : Int), Ss 41 [] [(0, xi MR), (3, qL M9 0), (4, .slice Nr Nd.length Nu), (5, .int .i64 M6), (31, .int .i64 (if MS > (1 : Int) then MS else (1 : Int))), (32, .int .i64 Ng)] H [M0, Nb, Ni] F a w ∧ (XH (K1 .u8) (K2 3) 3 (ci .i64) 1 M4 MX Nb) ∧ (zV.l3 K (zV.l1 K MR Nf) MR MS Nd Ny MX M6 Ng).wp kr kp) K ?_ ?_ ?_
    ·exact ⟨MU, M3, MW, (0 : Int), hS.to [1, 2, 3] (by kernel_rfl) ⟨rfl, rfl, rfl, rfl, rfl, rfl, trivial⟩, Nm, hM⟩
    ·intro a w hI; obtain ⟨_, _, _, _, _, _, hM⟩ := hI; exact zt hM
    ·intro Ny a w hI NV NB
     obtain ⟨MX, Nb, M6, Ng, hS, Nn, hM⟩ := hI
     rw [zV.l3] at hM
     refine qm <| sB hS rfl fun hS => qA <| wp_seq <| qF hS rfl hM (fun NJ hM => ?_) (fun NJ hM => ?_)
     ·refine wp_skip ?_
      refine qe <| wp_seq <| xS <| qm <| sM hS rfl fun hS => sM hS rfl fun hS => qJ hS rfl Tryd.call27 (QT hG K (xn.mk MR MX) M6 M9 M0 M4 Nb Nj Nn (hS.st.part 2 [0, 1, 2] (by kernel_rfl)) (qt hM) (fun Np Nw w hM NQ hst => qz hS.ev hst.appF rfl fun hS => ?_))
      replace hS : Ss _ _ _ H [M0, Nw, Ni] F _ _ := hS
      refine qA <| zP <| sM hS rfl fun hS => sB hS rfl fun hS => zG (v := Value.int .i64) (x0 := (qh (M6 + (1 : Int)))) hS (xD rfl) rfl fun NR a w hz hS => ?_
      have hM := qB hz hM; clear hz
      refine zn <| zy (qe ?_)
      refine zP <| sB hS rfl fun hS => sM hS rfl fun hS => zn <| qe ?_
      exact NB _ _ ⟨Np, Nw, NR, (qh (Ng + (1 : Int))), hS.to [0, 1, 2] (by kernel_rfl) ⟨rfl, rfl, rfl, rfl, rfl, rfl, trivial⟩, NQ, hM⟩
     ·refine wp_exit ?_
      refine qE (qE (zd (zy (qe ?_))))
      exact NC _ _ ⟨MX, Nb, Nr, Nu, Nd, Ni, M6, hS.to [0, 1, 2] (by kernel_rfl) ⟨rfl, rfl, rfl, rfl, trivial⟩, Nn, NG, hM⟩
  ·refine wp_exit ?_
   refine qE (qE (zd (qe ?_)))
   refine qm <| sM hS rfl fun hS => sA hS rfl fun hS => qA <| wp_ret ?_
   exact zD (rs := [2]) hS rfl rfl (hret M8 Na MY M5 _ (q8 hM) No (hS.st.pick [2] (by kernel_rfl)))
theorem ZG {H : xT} {F : List qk} {w : World} {R : Ending → World → Prop} {kr : (List UInt8) → Prop} {kp : Value → Prop} (hG : Gl H) (K : Nat) (M3 : List UInt8)
    (hS : St w H [] F) (hm : (zT.m K M3).wp kr kp)
    (hret : ∀ (M5 : List UInt8) (w : World), kr M5 → St w H [] F → R (.returned (xi M5)) w) :
    Calls Tryd.prog 15 ⟨[xi M3]⟩ w R := by
 refine enter Tryd.func15 rfl Tryd.ntmps15 rfl hS fun a w hS => ?_
 have hM := hm; clear hm
 rw [zT.m] at hM
 refine qm <| sA hS rfl fun hS => qA <| qm <| sA hS rfl fun hS => ?_
 obtain ⟨Nk, M7, hS⟩ := hS.nilV 5 (ci .u8) 1
 refine qA <| xS <| zv (fun M0 a w => ∃ (MT : List UInt8) (MV : Option Addr) (MW : Nat) (MU : (List Int)) (MX : qk), Ss 41 [] [(0, xi MT), (3, .slice MV MU.length MW)] H [MX] F a w ∧ (xj 5 (ci .u8) 1 MV MU MW MX) ∧ (zT.l1 K M0 MT MU).wp kr kp) K ?_ ?_ ?_
 ·exact ⟨M3, none, 0, ([] : List Int), Nk, hS.to [0] (by kernel_rfl) ⟨rfl, rfl, trivial⟩, M7, hM⟩
 ·intro a w hI; obtain ⟨_, _, _, _, _, _, _, hM⟩ := hI; exact zt hM
 ·intro M0 a w hI Ns M6
  obtain ⟨MT, MV, MW, MU, MX, hS, M8, hM⟩ := hI
  rw [zT.l1] at hM
  refine xS <| qm <| sM hS rfl fun hS => sO hS (ul rfl Tryd.runUnderlying9) rfl fun hS => sO hS (Ul rfl rfl) rfl fun hS => zG (v := Value.int .i64) (x0 := (if (MT.length : Int) < (65535 : Int) then (MT.length : Int) else (65535 : Int))) hS (xD rfl) rfl fun MR a w hz hS => ?_
  have hM := qB hz hM; clear hz
  refine qA <| qm <| sA hS rfl fun hS => qA <| zm (fun a w => ∃ (MS : Int), Ss 41 [] [(0, xi MT), (3, .slice MV MU.length MW), (4, .int .i64 MR), (5, .int .u8 MS)] H [MX] F a w ∧ (zT.j2 K (zT.l1 K M0) MT MU MR MS).wp kr kp) (fun Nr MY => ?_) ?_
  ·refine wp_seq ?_
   refine zP <| sM hS rfl fun hS => sM hS rfl fun hS => sO hS (ul rfl Tryd.runUnderlying9) rfl fun hS => sB hS rfl fun hS => qA <| qF hS rfl hM (fun Nb hM => ?_) (fun Nb hM => ?_)
   ·refine zP ?_
    refine sA hS rfl fun hS => zn <| qe ?_
    exact MY _ _ ⟨(1 : Int), hS.to [0] (by kernel_rfl) ⟨rfl, rfl, rfl, rfl, trivial⟩, hM⟩
   ·refine wp_skip ?_
    refine qe ?_
    exact MY _ _ ⟨(0 : Int), hS.to [0] (by kernel_rfl) ⟨rfl, rfl, rfl, rfl, trivial⟩, hM⟩
  ·intro a w hI
   obtain ⟨MS, hS, hM⟩ := hI
   rw [zT.j2] at hM
   refine qm <| sM hS rfl fun hS => sM hS rfl fun hS => sM hS rfl fun hS => sO hS (u7 rfl Tryd.runUnderlying3 Tryd.runUnderlying5) rfl fun hS => sM hS rfl fun hS => sO hS (shr rfl rfl rfl) rfl fun hS => sO hS (u7 rfl Tryd.runUnderlying3 Tryd.runUnderlying5) rfl fun hS => sM hS rfl fun hS => sO hS (u7 rfl Tryd.runUnderlying3 Tryd.runUnderlying5) rfl fun hS => sO hS (un rfl rfl) rfl fun hS => sM hS rfl fun hS => sO hS (shr rfl rfl rfl) rfl fun hS => sO hS (u7 rfl Tryd.runUnderlying3 Tryd.runUnderlying5) rfl fun hS => sO hS (un rfl rfl) rfl fun hS => J2 (g := (ci .u8)) ([MS, (wr .u8 MR), (wr .u8 (xa .i64 MR (8 : Int))), (QO .u8 (wr .u8 MR)), (QO .u8 (wr .u8 (xa .i64 MR (8 : Int))))] : List Int) [.int .u8 MS, .int .u8 (wr .u8 MR), .int .u8 (wr .u8 (xa .i64 MR (8 : Int))), .int .u8 (QO .u8 (wr .u8 MR)), .int .u8 (QO .u8 (wr .u8 (xa .i64 MR (8 : Int))))] hS Tryd.runUnderlying32 Tryd.sizeOf5 X.el5 rfl rfl rfl (by simp [Value.cells]) rfl rfl rfl rfl rfl fun w Np Nt Nv M9 hS => ?_
   obtain ⟨Nd, hM⟩ := qK hM
   refine J1 (ys := ([MS, (wr .u8 MR), (wr .u8 (xa .i64 MR (8 : Int))), (QO .u8 (wr .u8 MR)), (QO .u8 (wr .u8 (xa .i64 MR (8 : Int))))] : List Int)) 1 hS rfl rfl M8 rfl (M9.rd (i := 0) rfl) Tryd.runUnderlying32 Tryd.runUnderlying32 X.el5 (fun _ => rfl) rfl Qv Nd rfl fun No w Nq Nu Nw hz Na hS => ?_
   have hM := qB hz hM; clear hz
   refine sA hS rfl fun hS => qA <| qm <| sM hS rfl fun hS => sM hS rfl fun hS => sM hS rfl fun hS => ?_
   obtain ⟨Nf, hM⟩ := qK hM
   refine sO hS (Lf rfl Tryd.runUnderlying9 Lj (DK rfl) Nf) rfl fun hS => ?_
   obtain ⟨Ng, hM⟩ := qK hM
   refine Mm 1 hS rfl rfl Na rfl Tryd.runUnderlying32 Tryd.runUnderlying9 X.el5 rfl Ng rfl fun M4 w Ni Nj Nl hz MZ hS => ?_
   have hM := qB hz hM; clear hz
   refine sA hS rfl fun hS => qA <| qm <| sM hS rfl fun hS => sM hS rfl fun hS => ?_
   obtain ⟨Nh, hM⟩ := qK hM
   refine sO hS (Lf rfl Tryd.runUnderlying9 (G2 rfl) GV Nh) rfl fun hS => zG (v := xi) (x0 := (sub MT MR (MT.length : Int))) hS (xD rfl) rfl fun Nm a w hz hS => ?_
   have hM := qB hz hM; clear hz
   refine qA <| qm <| sM hS rfl fun hS => sB hS rfl fun hS => qA <| qF hS rfl hM (fun Nc hM => ?_) (fun Nc hM => ?_)
   ·refine wp_seq ?_
    refine zP <| sM hS rfl fun hS => sO hS (Lv rfl Tryd.runUnderlying32 Tryd.runUnderlying5 Tryd.runUnderlying9 (MZ.rd (i := 1) rfl)) rfl fun hS => zG (v := xi) (x0 := (M4.map ur)) hS (xD rfl) rfl fun Nn a w hz hS => ?_
    have hM := qB hz hM; clear hz
    refine qA <| wp_ret <| x6 (zl (x6 ?_))
    exact zD (rs := [2]) hS rfl rfl (hret Nn _ (q8 hM) (hS.st.pick [] (by kernel_rfl)))
   ·refine wp_skip ?_
    refine zy (qe ?_)
    exact M6 _ _ ⟨Nm, Ni, Nj, M4, Nl, hS.to [1] (by kernel_rfl) ⟨rfl, rfl, trivial⟩, MZ, hM⟩
theorem JM {H : xT} {F : List qk} {w : World} {R : Ending → World → Prop} {kr : Bool → Prop} {kp : Value → Prop} (hG : Gl H) (K : Nat) (MR : qM)
    (hS : St w H [] F) (hm : (vT.m K MR).wp kr kp)
    (hret : ∀ (MT : Bool) (w : World), kr MT → St w H [] F → R (.returned (.bool MT)) w) :
    Calls Tryd.prog 66 ⟨[.agg ⟨[.int .u8 MR.Lit_, .int .i64 MR.Len_, .int .i64 MR.Dist_]⟩]⟩ w R := by
 refine enter Tryd.func66 rfl Tryd.ntmps66 rfl hS fun a w hS => ?_
 have hM := hm; clear hm
 rw [vT.m] at hM
 refine qm <| bx ([.int .u8 MR.Lit_, .int .i64 MR.Len_, .int .i64 MR.Dist_]) hS rfl rfl rfl fun w MX MY MS hS => sA hS rfl fun hS => qA <| wp_seq <| qm <| sO hS (xv rfl Tryd.runUnderlying57 rfl Tryd.sizeOf3 rfl) rfl fun hS => sO hS (x5 0 rfl MS rfl rfl Tryd.isAgg3) rfl fun hS => sB hS rfl fun hS => qA <| qF hS rfl hM (fun MU hM => ?_) (fun MU hM => ?_)
 ·refine wp_seq ?_
  refine zP <| sO hS (xv rfl Tryd.runUnderlying57 rfl Tryd.sizeOf3 rfl) rfl fun hS => sO hS (x5 0 rfl MS rfl rfl Tryd.isAgg3) rfl fun hS => sB hS rfl fun hS => zG (v := Value.bool) (x0 := (MR.Len_ == (0 : Int))) hS (xD rfl) rfl fun MV a w hz hS => ?_
  have hM := qB hz hM; clear hz
  refine qA <| wp_ret <| zl ?_
  exact zD (rs := [2]) hS rfl rfl (hret MV _ (q8 hM) (hS.st.pick [] (by kernel_rfl)))
 ·refine wp_skip ?_
  refine qe <| qm <| sO hS (xv rfl Tryd.runUnderlying57 rfl Tryd.sizeOf3 rfl) rfl fun hS => sO hS (x5 0 rfl MS rfl rfl Tryd.isAgg3) rfl fun hS => sB hS rfl fun hS => sM hS rfl fun hS => yJ 3 true 12 (b := (decide (MR.Dist_ > (0 : Int)))) (r := (decide (MR.Dist_ ≤ (32768 : Int)))) hS rfl rfl rfl rfl rfl rfl rfl (fun hb a w hS K hK => ?_) rfl fun a w hS => ?_
  ·refine zW hS rfl rfl rfl hb (xv rfl Tryd.runUnderlying57 rfl Tryd.sizeOf3 rfl) rfl fun a w hS => ?_
   refine zW hS rfl rfl rfl hb (x5 0 rfl MS rfl rfl Tryd.isAgg3) rfl fun a w hS => zW hS rfl rfl rfl hb (js rfl rfl rfl) rfl fun a w hS => ?_
   exact zn (hK _ _ (hS.up 3 rfl rfl))
  refine sM hS rfl fun hS => yJ 3 true 17 (b := ((decide (MR.Dist_ > (0 : Int))) && (decide (MR.Dist_ ≤ (32768 : Int))))) (r := (decide (MR.Len_ ≥ (3 : Int)))) hS rfl rfl rfl rfl rfl rfl rfl (fun hb a w hS K hK => ?_) rfl fun a w hS => ?_
  ·refine zW hS rfl rfl rfl hb (xv rfl Tryd.runUnderlying57 rfl Tryd.sizeOf3 rfl) rfl fun a w hS => ?_
   refine zW hS rfl rfl rfl hb (x5 0 rfl MS rfl rfl Tryd.isAgg3) rfl fun a w hS => zW hS rfl rfl rfl hb (js rfl rfl rfl) rfl fun a w hS => ?_
   exact zn (hK _ _ (hS.up 3 rfl rfl))
  refine sM hS rfl fun hS => yJ 3 true 22 (b := (((decide (MR.Dist_ > (0 : Int))) && (decide (MR.Dist_ ≤ (32768 : Int)))) && (decide (MR.Len_ ≥ (3 : Int))))) (r := (decide (MR.Len_ ≤ (258 : Int)))) hS rfl rfl rfl rfl rfl rfl rfl (fun hb a w hS K hK => ?_) rfl fun a w hS => ?_
  ·refine zW hS rfl rfl rfl hb (xv rfl Tryd.runUnderlying57 rfl Tryd.sizeOf3 rfl) rfl fun a w hS => ?_
   refine zW hS rfl rfl rfl hb (x5 0 rfl MS rfl rfl Tryd.isAgg3) rfl fun a w hS => zW hS rfl rfl rfl hb (js rfl rfl rfl) rfl fun a w hS => ?_
   exact zn (hK _ _ (hS.up 3 rfl rfl))
  refine sM hS rfl fun hS => yJ 3 true 27 (b := ((((decide (MR.Dist_ > (0 : Int))) && (decide (MR.Dist_ ≤ (32768 : Int)))) && (decide (MR.Len_ ≥ (3 : Int)))) && (decide (MR.Len_ ≤ (258 : Int))))) (r := (MR.Lit_ == (0 : Int))) hS rfl rfl rfl rfl rfl rfl rfl (fun hb a w hS K hK => ?_) rfl fun a w hS => ?_
  ·refine zW hS rfl rfl rfl hb (xv rfl Tryd.runUnderlying57 rfl Tryd.sizeOf5 rfl) rfl fun a w hS => ?_
   refine zW hS rfl rfl rfl hb (x5 0 rfl MS rfl rfl Tryd.isAgg5) rfl fun a w hS => zW hS rfl rfl rfl hb (js rfl rfl rfl) rfl fun a w hS => ?_
   exact zn (hK _ _ (hS.up 3 rfl rfl))
  refine zG (v := Value.bool) (x0 := (((((decide (MR.Dist_ > (0 : Int))) && (decide (MR.Dist_ ≤ (32768 : Int)))) && (decide (MR.Len_ ≥ (3 : Int)))) && (decide (MR.Len_ ≤ (258 : Int)))) && (MR.Lit_ == (0 : Int)))) hS (xD rfl) rfl fun MW a w hz hS => ?_
  have hM := qB hz hM; clear hz
  refine qA <| wp_ret ?_
  exact zD (rs := [2]) hS rfl rfl (hret MW _ (q8 hM) (hS.st.pick [] (by kernel_rfl)))
theorem uV {H : xT} {F : List qk} {w : World} {R : Ending → World → Prop} {kr : Int → Prop} {kp : Value → Prop} (hG : Gl H) (K : Nat) (MU : Int) (MR : Int)
    (hS : St w H [] F) (hm : (yb.m K MU MR).wp kr kp)
    (hret : ∀ (MW : Int) (w : World), kr MW → St w H [] F → R (.returned (.int .i64 MW)) w) :
    Calls Tryd.prog 68 ⟨[.int .i64 MU, .int .i64 MR]⟩ w R := by
 refine enter Tryd.func68 rfl Tryd.ntmps68 rfl hS fun a w hS => ?_
 have hM := hm; clear hm
 rw [yb.m] at hM
 refine qm <| sA hS rfl fun hS => qA <| qm <| sA hS rfl fun hS => qA <| wp_seq <| xS <| zv (fun MV a w => ∃ (MT : Int) (MS : Int), Ss 15 [] [(0, .int .i64 MT), (1, .int .i64 MR), (5, .int .i64 MS)] H [] F a w ∧ (yb.l1 K MR MV MT MS).wp kr kp) K ?_ ?_ ?_
 ·exact ⟨MU, (0 : Int), hS.to [] (by kernel_rfl) ⟨rfl, rfl, rfl, trivial⟩, hM⟩
 ·intro a w hI; obtain ⟨_, _, _, hM⟩ := hI; exact zt hM
 ·intro MV a w hI M4 MX
  obtain ⟨MT, MS, hS, hM⟩ := hI
  rw [yb.l1] at hM
  refine wp_seq <| qm <| sM hS rfl fun hS => sM hS rfl fun hS => ?_
  obtain ⟨MZ, hM⟩ := qK hM
  refine sO hS (shl rfl rfl MZ) rfl fun hS => sB hS rfl fun hS => qA <| qF hS rfl hM (fun MY hM => ?_) (fun MY hM => ?_)
  ·refine wp_skip ?_
   refine qe <| xS <| qm <| sM hS rfl fun hS => sO hS (shr rfl rfl rfl) rfl fun hS => zG (v := Value.int .i64) (x0 := (xa .i64 MT (1 : Int))) hS (xD rfl) rfl fun M3 a w hz hS => ?_
   have hM := qB hz hM; clear hz
   refine qA <| zP <| sM hS rfl fun hS => sB hS rfl fun hS => zG (v := Value.int .i64) (x0 := (qh (MS + (1 : Int)))) hS (xD rfl) rfl fun M0 a w hz hS => ?_
   have hM := qB hz hM; clear hz
   refine zn <| zy (qe ?_)
   exact MX _ _ ⟨M3, M0, hS.to [] (by kernel_rfl) ⟨rfl, rfl, rfl, trivial⟩, hM⟩
  ·refine wp_exit ?_
   refine qE (qE (zd (qe ?_)))
   refine qm <| sM hS rfl fun hS => sA hS rfl fun hS => qA <| wp_ret ?_
   exact zD (rs := [4]) hS rfl rfl (hret MS _ (q8 hM) (hS.st.pick [] (by kernel_rfl)))
theorem Q1 {H : xT} {F : List qk} {w : World} {R : Ending → World → Prop} {kr : Int → Prop} {kp : Value → Prop} (hG : Gl H) (K : Nat) (MR : Int)
    (hS : St w H [] F) (hm : (yS.m K MR).wp kr kp)
    (hret : ∀ (MS : Int) (w : World), kr MS → St w H [] F → R (.returned (.int .i64 MS)) w) :
    Calls Tryd.prog 67 ⟨[.int .i64 MR]⟩ w R := by
 refine enter Tryd.func67 rfl Tryd.ntmps67 rfl hS fun a w hS => ?_
 have hM := hm; clear hm
 rw [yS.m] at hM
 refine qm <| sA hS rfl fun hS => qA <| wp_seq <| xS <| qm <| sM hS rfl fun hS => sB hS rfl fun hS => zG (v := Value.bool) (x0 := (MR == (258 : Int))) hS (xD rfl) rfl fun MZ a w hz hS => ?_
 have hM := qB hz hM; clear hz
 refine qA <| qF hS rfl hM (fun MT hM => ?_) (fun MT hM => ?_)
 ·refine wp_seq ?_
  refine zP <| sA hS rfl fun hS => qA <| wp_ret <| x6 (zl ?_)
  exact zD (rs := [2]) hS rfl rfl (hret (8 : Int) _ (q8 hM) (hS.st.pick [] (by kernel_rfl)))
 ·refine wp_seq ?_
  refine zP <| sM hS rfl fun hS => sB hS rfl fun hS => zG (v := Value.bool) (x0 := (decide (MR ≥ (115 : Int)))) hS (xD rfl) rfl fun M0 a w hz hS => ?_
  have hM := qB hz hM; clear hz
  refine qA <| qF hS rfl hM (fun MU hM => ?_) (fun MU hM => ?_)
  ·refine wp_seq ?_
   refine zP <| sM hS rfl fun hS => sB hS rfl fun hS => qJ hS rfl Tryd.call68 (uV hG K (qh (MR - (3 : Int))) (2 : Int) (hS.st.part 0 [] (by kernel_rfl)) (qt hM) (fun MX w hM  hst => qz hS.ev hst.appF rfl fun hS => ?_))
   replace hS : Ss _ _ _ H [] F _ _ := hS
   refine sB hS rfl fun hS => zG (v := Value.int .i64) (x0 := (qh ((8 : Int) + MX))) hS (xD rfl) rfl fun MV a w hz hS => ?_
   have hM := qB hz hM; clear hz
   refine qA <| wp_ret <| x6 (zl ?_)
   exact zD (rs := [2]) hS rfl rfl (hret MV _ (q8 hM) (hS.st.pick [] (by kernel_rfl)))
  ·refine wp_skip ?_
   refine zy (qe ?_)
   refine qm <| sM hS rfl fun hS => sB hS rfl fun hS => qJ hS rfl Tryd.call68 (uV hG K (qh (MR - (3 : Int))) (2 : Int) (hS.st.part 0 [] (by kernel_rfl)) (qt hM) (fun MY w hM  hst => qz hS.ev hst.appF rfl fun hS => ?_))
   replace hS : Ss _ _ _ H [] F _ _ := hS
   refine sB hS rfl fun hS => zG (v := Value.int .i64) (x0 := (qh ((7 : Int) + MY))) hS (xD rfl) rfl fun MW a w hz hS => ?_
   have hM := qB hz hM; clear hz
   refine qA <| wp_ret ?_
   exact zD (rs := [2]) hS rfl rfl (hret MW _ (q8 hM) (hS.st.pick [] (by kernel_rfl)))
theorem JK {H : xT} {F : List qk} {w : World} {R : Ending → World → Prop} {kr : (Int × Int) → Prop} {kp : Value → Prop} (hG : Gl H) (K : Nat) (MR : List qM) (MZ : Option Addr) (M0 : Nat) (M6 : jT H [] F qM.cells MZ MR) (Nk : MR.length ≤ M0)
    (hS : St w H [] F) (hm : (x4.m K MR).wp kr kp)
    (hret : ∀ (M9 : Int) (Na : Int) (w : World), kr (M9, Na) → St w H [] F → R (.returned (.tuple ⟨[.int .i64 M9, .int .i64 Na]⟩)) w) :
    Calls Tryd.prog 49 ⟨[.slice MZ MR.length M0]⟩ w R := by
 refine enter Tryd.func49 rfl Tryd.ntmps49 rfl hS fun a w hS => ?_
 have hM := hm; clear hm
 rw [x4.m] at hM
 refine qm <| sA hS rfl fun hS => sA hS rfl fun hS => qA <| qm <| sA hS rfl fun hS => qA <| wp_seq <| qm <| sM hS rfl fun hS => sO hS (yk rfl Tryd.runUnderlying37) rfl fun hS => sM hS rfl fun hS => qA <| xS <| zv (fun M8 a w => ∃ (MT : Int) (MS : Int), Ss 47 [] [(4, .int .i64 MT), (7, .slice MZ MR.length M0), (8, .int .i64 (MR.length : Int)), (9, .int .i64 MS)] H [] F a w ∧ (x4.l1 K MR M8 MT MS).wp kr kp) K ?_ ?_ ?_
 ·exact ⟨(7 : Int), (0 : Int), hS.to [] (by kernel_rfl) ⟨rfl, rfl, rfl, rfl, trivial⟩, hM⟩
 ·intro a w hI; obtain ⟨_, _, _, hM⟩ := hI; exact zt hM
 ·intro M8 a w hI Nl MX
  obtain ⟨MT, MS, hS, hM⟩ := hI
  rw [x4.l1] at hM
  refine qm <| sB hS rfl fun hS => qA <| wp_seq <| qF hS rfl hM (fun Nc hM => ?_) (fun Nc hM => ?_)
  ·refine wp_skip ?_
   refine qe <| wp_seq <| xS <| wp_seq <| zP ?_
   obtain ⟨M5, hM⟩ := qK hM
   refine sO hS (yv rfl rfl Tryd.runUnderlying37 Tryd.sizeOf57 M6.wk (fun _ => rfl) rfl M5) rfl fun hS => sO hS (v7 rfl M6.wk (fun _ => rfl) M5 Tryd.isAgg57 Tryd.sizeOf57 rfl) rfl fun hS => QF ([.int .u8 (0 : Int), .int .i64 (0 : Int), .int .i64 (0 : Int)]) hS Tryd.zeroValue57 rfl rfl fun w MW Nm Nb hS => QU 0 ([.int .u8 ((rd MR MS).Lit_), .int .i64 ((rd MR MS).Len_), .int .i64 ((rd MR MS).Dist_)]) ([.int .u8 ((rd MR MS).Lit_), .int .i64 ((rd MR MS).Len_), .int .i64 ((rd MR MS).Dist_)]) hS rfl rfl Nb rfl rfl Tryd.sizeOf57 (by simp [Value.oneCell']) (Nat.le_of_ble_eq_true rfl) rfl fun w M4 MU hS => qA <| xS <| qm <| sO hS (uS 0 rfl MU rfl ([.int .u8 ((rd MR MS).Lit_), .int .i64 ((rd MR MS).Len_), .int .i64 ((rd MR MS).Dist_)]) rfl rfl Tryd.isAgg57 Tryd.sizeOf57) rfl fun hS => qJ hS rfl Tryd.call66 (JM hG K (qM.mk ((rd MR MS).Lit_) ((rd MR MS).Len_) ((rd MR MS).Dist_)) (hS.st.part 0 [0] (by kernel_rfl)) (qt hM) (fun Nj w hM  hst => qz hS.ev hst.appF rfl fun hS => ?_))
   replace hS : Ss _ _ _ H [M4] F _ _ := hS
   refine sO hS (un rfl rfl) rfl fun hS => zG (v := Value.bool) (x0 := (!Nj)) hS (xD rfl) rfl fun Nn a w hz hS => ?_
   have hM := qB hz hM; clear hz
   refine qA <| qF hS rfl hM (fun Nd hM => ?_) (fun Nd hM => ?_)
   ·refine wp_seq ?_
    refine zP <| sA hS rfl fun hS => sA hS rfl fun hS => qA <| wp_ret <| x6 (x6 (zl (zl (x6 (zl ?_)))))
    exact zD (rs := [2, 3]) hS rfl rfl (hret (0 : Int) (1 : Int) _ (q8 hM) (hS.st.pick [] (by kernel_rfl)))
   ·refine wp_seq ?_
    refine zP <| sO hS (xv rfl Tryd.runUnderlying57 rfl Tryd.sizeOf3 rfl) rfl fun hS => sO hS (x5 0 rfl MU rfl rfl Tryd.isAgg3) rfl fun hS => sB hS rfl fun hS => sM hS rfl fun hS => yJ 3 true 32 (b := ((rd MR MS).Dist_ == (0 : Int))) (r := (decide ((rd MR MS).Lit_ < (144 : Int)))) hS rfl rfl rfl rfl rfl rfl rfl (fun hb a w hS K hK => ?_) rfl fun a w hS => ?_
    ·refine zW hS rfl rfl rfl hb (xv rfl Tryd.runUnderlying57 rfl Tryd.sizeOf5 rfl) rfl fun a w hS => ?_
     refine zW hS rfl rfl rfl hb (x5 0 rfl MU rfl rfl Tryd.isAgg5) rfl fun a w hS => zW hS rfl rfl rfl hb (js rfl rfl rfl) rfl fun a w hS => ?_
     exact zn (hK _ _ (hS.up 3 rfl rfl))
    refine zG (v := Value.bool) (x0 := (((rd MR MS).Dist_ == (0 : Int)) && (decide ((rd MR MS).Lit_ < (144 : Int))))) hS (xD rfl) rfl fun No a w hz hS => ?_
    have hM := qB hz hM; clear hz
    refine qA <| qF hS rfl hM (fun Nf hM => ?_) (fun Nf hM => ?_)
    ·refine zP ?_
     refine sM hS rfl fun hS => sB hS rfl fun hS => zG (v := Value.int .i64) (x0 := (qh (MT + (8 : Int)))) hS (xD rfl) rfl fun Nh a w hz hS => ?_
     have hM := qB hz hM; clear hz
     refine zn <| zy (zy (qe ?_))
     refine zP <| sB hS rfl fun hS => sM hS rfl fun hS => zn <| qe ?_
     exact MX _ _ ⟨Nh, (qh (MS + (1 : Int))), hS.to [] (by kernel_rfl) ⟨rfl, rfl, rfl, rfl, trivial⟩, hM⟩
    ·refine wp_seq ?_
     refine zP <| sO hS (xv rfl Tryd.runUnderlying57 rfl Tryd.sizeOf3 rfl) rfl fun hS => sO hS (x5 0 rfl MU rfl rfl Tryd.isAgg3) rfl fun hS => sB hS rfl fun hS => zG (v := Value.bool) (x0 := ((rd MR MS).Dist_ == (0 : Int))) hS (xD rfl) rfl fun Np a w hz hS => ?_
     have hM := qB hz hM; clear hz
     refine qA <| qF hS rfl hM (fun Ng hM => ?_) (fun Ng hM => ?_)
     ·refine zP ?_
      refine sM hS rfl fun hS => sB hS rfl fun hS => zG (v := Value.int .i64) (x0 := (qh (MT + (9 : Int)))) hS (xD rfl) rfl fun Ni a w hz hS => ?_
      have hM := qB hz hM; clear hz
      refine zn <| zy (zy (qe ?_))
      refine zP <| sB hS rfl fun hS => sM hS rfl fun hS => zn <| qe ?_
      exact MX _ _ ⟨Ni, (qh (MS + (1 : Int))), hS.to [] (by kernel_rfl) ⟨rfl, rfl, rfl, rfl, trivial⟩, hM⟩
     ·refine za (vals := [some (.int .i64 MT), some (qL MW 1), some (.int .i64 ((rd MR MS).Len_)), none, none, some (qL MW 2), some (.int .i64 ((rd MR MS).Dist_)), some (.int .i64 (qh ((rd MR MS).Dist_ - (1 : Int)))), none, none, none, none]) hS xG rfl ?_
      intro l w ho hcl hA hst
      refine jg hA hst ho hcl xx xH 3 [0, 1, 2, 5, 6, 7] rfl rfl rfl rfl rfl (by exact ⟨nM rfl, nQ rfl (by exact qW (xv rfl Tryd.runUnderlying57 rfl Tryd.sizeOf3 rfl) rfl), nQ rfl (by exact qW (x5 0 rfl MU rfl rfl Tryd.isAgg3) rfl), nQ rfl (by exact qW (xv rfl Tryd.runUnderlying57 rfl Tryd.sizeOf3 rfl) rfl), nQ rfl (by exact qW (x5 0 rfl MU rfl rfl Tryd.isAgg3) rfl), nB rfl, trivial⟩) fun D l a w ho hcl hav hpre hm hE hk hA hst => ?_
      have hS := (Ss.mk hE hst).env2 (e' := [(15, .int .i64 ((rd MR MS).Len_))]) ⟨rfl, trivial⟩
      refine qQ rfl <| qJ hS rfl Tryd.call67 (Q1 hG K ((rd MR MS).Len_) (hS.st.part 0 [0] (by kernel_rfl)) (qt hM) (fun MV w hM  hst => qz hS.ev hst.appF rfl fun hS => ?_))
      replace hS : Ss _ _ _ H [M4] F _ _ := hS
      refine qA ?_
      replace hst := hS.st
      obtain ⟨hcl, hmust, hav2, hA⟩ := dn (vals' := [some (.int .i64 MT), some (qL MW 1), some (.int .i64 ((rd MR MS).Len_)), some (.int .i64 MV), some (.int .i64 (qh (MV + (5 : Int)))), some (qL MW 2), some (.int .i64 ((rd MR MS).Dist_)), some (.int .i64 (qh ((rd MR MS).Dist_ - (1 : Int)))), none, none, none, none]) 3 [(2, 3), (1, 2)] hA hcl hav hm hpre hk rfl rfl rfl rfl rfl rfl rfl
      clear hm hav
      refine jg hA hst ho hcl hav2 hmust 8 [0, 4, 5, 6, 7] rfl rfl rfl rfl rfl (by exact ⟨nM rfl, nB rfl, nQ rfl (by exact qW (xv rfl Tryd.runUnderlying57 rfl Tryd.sizeOf3 rfl) rfl), nQ rfl (by exact qW (x5 0 rfl MU rfl rfl Tryd.isAgg3) rfl), nB rfl, trivial⟩) fun D l a w ho hcl hav hpre hm hE hk hA hst => ?_
      have hS := (Ss.mk hE hst).env2 (e' := [(20, .int .i64 (qh ((rd MR MS).Dist_ - (1 : Int))))]) ⟨rfl, trivial⟩
      refine qQ rfl <| qJ hS rfl Tryd.call68 (uV hG K (qh ((rd MR MS).Dist_ - (1 : Int))) (1 : Int) (hS.st.part 0 [0] (by kernel_rfl)) (qt hM) (fun M3 w hM  hst => qz hS.ev hst.appF rfl fun hS => ?_))
      replace hS : Ss _ _ _ H [M4] F _ _ := hS
      refine qA ?_
      replace hst := hS.st
      obtain ⟨MY, M7⟩ : ∃ x, x = (qh (MT + (qh ((qh (MV + (5 : Int))) + M3)))) := ⟨_, rfl⟩
      replace hM := qB M7 hM
      obtain ⟨hcl, hmust, hav2, hA⟩ := dn (vals' := [some (.int .i64 MT), some (qL MW 1), some (.int .i64 ((rd MR MS).Len_)), some (.int .i64 MV), some (.int .i64 (qh (MV + (5 : Int)))), some (qL MW 2), some (.int .i64 ((rd MR MS).Dist_)), some (.int .i64 (qh ((rd MR MS).Dist_ - (1 : Int)))), some (.int .i64 M3), some (.int .i64 (qh ((qh (MV + (5 : Int))) + M3))), some (.int .i64 (qh (MT + (qh ((qh (MV + (5 : Int))) + M3))))), some (.int .i64 MY)]) 8 [(3, 8), (7, 8), (2, 3), (6, 7), (1, 2), (5, 6)] hA hcl hav hm hpre hk rfl rfl rfl rfl rfl rfl rfl
      clear hm hav
      refine ym hA hst ho hcl hmust [0, 4, 9, 10, 11] rfl rfl rfl (by exact ⟨nM rfl, nB rfl, nB rfl, nB rfl, nQ rfl (by exact qW (xD rfl) (congrArg (Value.int .i64) M7.symm)), trivial⟩) fun a w hS => ?_
      replace hS := hS.env2 (e' := [(4, .int .i64 MY), (7, .slice MZ MR.length M0), (8, .int .i64 (MR.length : Int)), (9, .int .i64 MS)]) ⟨rfl, rfl, rfl, rfl, trivial⟩
      refine zy (zy (qe ?_))
      refine zP <| sB hS rfl fun hS => sM hS rfl fun hS => zn <| qe ?_
      exact MX _ _ ⟨MY, (qh (MS + (1 : Int))), hS.to [] (by kernel_rfl) ⟨rfl, rfl, rfl, rfl, trivial⟩, hM⟩
  ·refine wp_exit ?_
   refine qE (qE (zd (qe ?_)))
   refine qm <| sM hS rfl fun hS => sA hS rfl fun hS => sA hS rfl fun hS => qA <| wp_ret ?_
   exact zD (rs := [2, 3]) hS rfl rfl (hret MT (0 : Int) _ (q8 hM) (hS.st.pick [] (by kernel_rfl)))
theorem Qh {H : xT} {F : List qk} {w : World} {R : Ending → World → Prop} {kr : Bool → Prop} {kp : Value → Prop} (hG : Gl H) (K : Nat) (MR : List qM) (MS : Option Addr) (MT : Nat) (MW : jT H [] F qM.cells MS MR) (MV : MR.length ≤ MT)
    (hS : St w H [] F) (hm : (jn.m K MR).wp kr kp)
    (hret : ∀ (MU : Bool) (w : World), kr MU → St w H [] F → R (.returned (.bool MU)) w) :
    Calls Tryd.prog 28 ⟨[.slice MS MR.length MT]⟩ w R := by
 refine enter Tryd.func28 rfl Tryd.ntmps28 rfl hS fun a w hS => ?_
 have hM := hm; clear hm
 rw [jn.m] at hM
 refine qm <| sA hS rfl fun hS => qA <| qm <| sM hS rfl fun hS => qJ hS rfl Tryd.call49 (JK hG K MR MS MT (MW.app _) MV (hS.st.part 0 [] (by kernel_rfl)) (qt hM) (fun MZ MY w hM  hst => qz hS.ev hst.appF rfl fun hS => ?_))
 replace hS : Ss _ _ _ H [] F _ _ := hS
 refine sM hS rfl fun hS => sO hS (ex rfl rfl) rfl fun hS => sO hS (ex rfl rfl) rfl fun hS => sA hS rfl fun hS => sA hS rfl fun hS => qA <| qm <| sM hS rfl fun hS => sB hS rfl fun hS => zG (v := Value.bool) (x0 := (MY == (0 : Int))) hS (xD rfl) rfl fun MX a w hz hS => ?_
 have hM := qB hz hM; clear hz
 refine qA <| wp_ret ?_
 exact zD (rs := [2]) hS rfl rfl (hret MX _ (q8 hM) (hS.st.pick [] (by kernel_rfl)))
theorem Qd {H : xT} {F : List qk} {w : World} {R : Ending → World → Prop} {kr : (List Int) → Prop} {kp : Value → Prop} (hG : Gl H) (K : Nat) (MT : List Int) (Nk : MT.length = 16)
    (hS : St w H [] F) (hm : (zI.m K MT).wp kr kp)
    (hret : ∀ (Nb : (List Int)) (w : World), kr Nb → (Nb.length = 16) → St w H [] F → R (.returned (.agg ⟨Nb.flatMap (ci .i64)⟩)) w) :
    Calls Tryd.prog 71 ⟨[.agg ⟨MT.flatMap (ci .i64)⟩]⟩ w R := by
 refine enter Tryd.func71 rfl Tryd.ntmps71 rfl hS fun a w hS => ?_
 have hM := hm; clear hm
 rw [zI.m] at hM
 refine qm <| bx (MT.flatMap (ci .i64)) hS rfl rfl rfl fun w Nn No Nf hS => QF ((List.replicate 16 (0 : Int)).flatMap (ci .i64)) hS Tryd.zeroValue127 rfl rfl fun w MX Np Ng hS => qA <| qm <| sA hS rfl fun hS => qA <| zm (fun a w => ∃ (MR : (List Int)) (M6 : qk), Ss 20 [] [(2, qL MX 0)] H [M6] F a w ∧ (MR.length = 16) ∧ (xM M6 MX (MR.flatMap (ci .i64)) 127) ∧ (zI.j2 K MR).wp kr kp) (fun Ns Ni => ?_) ?_
 ·refine wp_seq ?_
  refine zP <| sA hS rfl fun hS => qA <| xS <| zv (fun Nd a w => ∃ (MS : (List Int)) (M5 : qk) (MU : Int) (MW : Int), Ss 20 [] [(1, qL Nn 0), (2, qL MX 0), (3, .int .i64 MU), (4, .int .i64 MW)] H [No, M5] F a w ∧ (MS.length = 16) ∧ (xM M5 MX (MS.flatMap (ci .i64)) 127) ∧ (zI.l1 K MT Nd MS MU MW).wp kr kp) K ?_ ?_ ?_
  ·exact ⟨(List.replicate 16 (0 : Int)), Np, (0 : Int), (1 : Int), hS.to [1, 0] (by kernel_rfl) ⟨rfl, rfl, rfl, rfl, trivial⟩, (List.length_replicate ..), Ng, hM⟩
  ·intro a w hI; obtain ⟨_, _, _, _, _, _, _, hM⟩ := hI; exact zt hM
  ·intro Nd a w hI Nr Nh
   obtain ⟨MS, M5, MU, MW, hS, M3, M7, hM⟩ := hI
   rw [zI.l1] at hM
   refine wp_seq <| qm <| sM hS rfl fun hS => sB hS rfl fun hS => qA <| qF hS rfl hM (fun Nj hM => ?_) (fun Nj hM => ?_)
   ·refine wp_skip ?_
    refine qe <| wp_seq <| xS <| qm <| sM hS rfl fun hS => sM hS rfl fun hS => sB hS rfl fun hS => ?_
    obtain ⟨M9, hM⟩ := qK hM
    refine sO hS (V5 rfl rfl Tryd.runUnderlying127 Tryd.sizeOf3 M9) rfl fun hS => sO hS (LG (xs := MT) (g := (ci .i64)) (pre := []) (post := []) 0 rfl Nf rfl (by simp) rfl (fun _ => rfl) (y9 Nk M9) rfl Tryd.isAgg3) rfl fun hS => sB hS rfl fun hS => sO hS (shl rfl rfl rfl) rfl fun hS => zG (v := Value.int .i64) (x0 := (z7 .i64 (qh (MU + (rd MT (qh (MW - (1 : Int)))))) (1 : Int))) hS (xD rfl) rfl fun MY a w hz hS => ?_
    have hM := qB hz hM; clear hz
    refine qA <| zP <| sM hS rfl fun hS => sM hS rfl fun hS => ?_
    obtain ⟨Na, hM⟩ := qK hM
    refine sO hS (V5 rfl rfl Tryd.runUnderlying127 Tryd.sizeOf3 Na) rfl fun hS => Gp (xs := MS) (g := (ci .i64)) (pre := []) (post := []) 1 (MY) hS rfl rfl M7 rfl (by simp) rfl (fun _ => rfl) (y9 M3 Na) rfl Tryd.sizeOf3 (xJ _) fun M4 w Nc hz MZ hS => ?_
    have Nl : M4.length = 16 := by rw [hz, List.length_set]; exact M3
    have hM := qB hz hM; clear hz
    replace MZ : xM Nc MX (M4.flatMap (ci .i64)) 127 := by simpa using MZ
    refine zn <| zy (qe ?_)
    refine zP <| sM hS rfl fun hS => sB hS rfl fun hS => zG (v := Value.int .i64) (x0 := (qh (MW + (1 : Int)))) hS (xD rfl) rfl fun Nm a w hz hS => ?_
    have hM := qB hz hM; clear hz
    refine zn <| qe ?_
    exact Nh _ _ ⟨M4, Nc, MY, Nm, hS.to [0, 1] (by kernel_rfl) ⟨rfl, rfl, rfl, rfl, trivial⟩, Nl, MZ, hM⟩
   ·refine wp_exit ?_
    refine qE (qE (zd (qe ?_)))
    exact Ni _ _ ⟨MS, M5, hS.to [1] (by kernel_rfl) ⟨rfl, trivial⟩, M3, M7, hM⟩
 ·intro a w hI
  obtain ⟨MR, M6, hS, MV, M8, hM⟩ := hI
  rw [zI.j2] at hM
  refine qm <| sO hS (YG (xs := MR) (g := (ci .i64)) (pre := []) (post := []) 0 rfl M8 rfl (by simp) rfl (xf (g := (ci .i64)) (sz := 1) (fun _ => rfl) MV) Tryd.isAgg127 Tryd.sizeOf127) rfl fun hS => YI (xs := MR) (ys := MR) (g := (ci .i64)) (pre := []) (post := []) 0 hS rfl rfl M8 rfl (by simp) rfl (xf (g := (ci .i64)) (sz := 1) (fun _ => rfl) MV) (xf (g := (ci .i64)) (sz := 1) (fun _ => rfl) MV) (xJ) Tryd.sizeOf127 fun w Nq M0 hS => ?_
  replace M0 : xM Nq MX (MR.flatMap (ci .i64)) 127 := by simpa using M0
  refine qA <| wp_ret ?_
  exact jk (vs := [.agg ⟨MR.flatMap (ci .i64)⟩]) hS rfl (by exact ⟨LQ 0 rfl M0 rfl (xf (g := (ci .i64)) (sz := 1) (fun _ => rfl) MV) Tryd.isAgg127 Tryd.sizeOf127, trivial⟩) (hret MR _ (q8 hM) MV (hS.st.pick [] (by kernel_rfl)))
theorem JC {H : xT} {F : List qk} {w : World} {R : Ending → World → Prop} {kr : ((List Int) × Int) → Prop} {kp : Value → Prop} (hG : Gl H) (K : Nat) (MR : List Int) (M4 : Option Addr) (M5 : Nat) (M3 : jT H [] F (ci .i64) M4 MR) (Nk : MR.length ≤ M5)
    (hS : St w H [] F) (hm : (x9.m K MR).wp kr kp)
    (hret : ∀ (Nq : Option Addr) (Nr : Nat) (Np : (List Int)) (Nv : qk) (Ny : Int) (w : World), kr (Np, Ny) → (xj 3 (ci .i64) 1 Nq Np Nr Nv) → St w H [Nv] F → R (.returned (.tuple ⟨[.slice Nq Np.length Nr, .int .i64 Ny]⟩)) w) :
    Calls Tryd.prog 52 ⟨[.slice M4 MR.length M5]⟩ w R := by
 refine enter Tryd.func52 rfl Tryd.ntmps52 rfl hS fun a w hS => ?_
 have hM := hm; clear hm
 rw [x9.m] at hM
 refine qm <| sA hS rfl fun hS => ?_
 obtain ⟨Nh, NP, hS⟩ := hS.nilV 3 (ci .i64) 1
 refine sA hS rfl fun hS => qA <| wp_seq <| qm <| sM hS rfl fun hS => qJ hS rfl Tryd.call69 (Zk hG K MR M4 M5 (M3.app _) Nk (hS.st.part 0 [0] (by kernel_rfl)) (qt hM) (fun NO w hM  hst => qz hS.ev hst.appF rfl fun hS => ?_))
 replace hS : Ss _ _ _ H [Nh] F _ _ := hS
 refine sA hS rfl fun hS => qA <| qm <| sM hS rfl fun hS => sB hS rfl fun hS => qA <| qF hS rfl hM (fun NE hM => ?_) (fun NE hM => ?_)
 ·refine wp_seq ?_
  refine zP <| sM hS rfl fun hS => sA hS rfl fun hS => ?_
  obtain ⟨NL, NB, hS⟩ := hS.nilV 3 (ci .i64) 1
  refine sA hS rfl fun hS => qA <| wp_ret <| zl ?_
  exact zD (rs := [2, 3]) hS rfl rfl (hret none (0) ([] : List Int) NL NO _ (q8 hM) NB (hS.st.pick [0] (by kernel_rfl)))
 ·refine wp_skip ?_
  refine qe <| qm <| sM hS rfl fun hS => qJ hS rfl Tryd.call70 (uP hG K MR M4 M5 (M3.app _) Nk (hS.st.part 0 [0] (by kernel_rfl)) (qt hM) (fun Ng NT w hM Ni hst => qz hS.ev hst.appF rfl fun hS => ?_))
  replace hS : Ss _ _ _ H [Nh] F _ _ := hS
  refine sM hS rfl fun hS => sO hS (ex rfl rfl) rfl fun hS => sO hS (ex rfl rfl) rfl fun hS => QF ((List.replicate 16 (0 : Int)).flatMap (ci .i64)) hS Tryd.zeroValue127 rfl rfl fun w NK NR Nz hS => YI (xs := (List.replicate 16 (0 : Int))) (ys := Ng) (g := (ci .i64)) (pre := []) (post := []) 0 hS rfl rfl Nz rfl (by simp) rfl (xf (g := (ci .i64)) (sz := 1) (fun _ => rfl) (List.length_replicate ..)) (xf (g := (ci .i64)) (sz := 1) (fun _ => rfl) Ni) (xJ) Tryd.sizeOf127 fun w Ns M7 hS => ?_
  replace M7 : xM Ns NK (Ng.flatMap (ci .i64)) 127 := by simpa using M7
  refine sA hS rfl fun hS => qA <| qm <| sO hS (YG (xs := Ng) (g := (ci .i64)) (pre := []) (post := []) 0 rfl M7 rfl (by simp) rfl (xf (g := (ci .i64)) (sz := 1) (fun _ => rfl) Ni) Tryd.isAgg127 Tryd.sizeOf127) rfl fun hS => qJ hS rfl Tryd.call71 (Qd hG K Ng Ni (hS.st.part 0 [0, 1] (by kernel_rfl)) (qt hM) (fun No w hM Nw hst => qz hS.ev hst.appF rfl fun hS => ?_))
  replace hS : Ss _ _ _ H [Ns, Nh] F _ _ := hS
  refine QF ((List.replicate 16 (0 : Int)).flatMap (ci .i64)) hS Tryd.zeroValue127 rfl rfl fun w Nd NS NA hS => YI (xs := (List.replicate 16 (0 : Int))) (ys := No) (g := (ci .i64)) (pre := []) (post := []) 0 hS rfl rfl NA rfl (by simp) rfl (xf (g := (ci .i64)) (sz := 1) (fun _ => rfl) (List.length_replicate ..)) (xf (g := (ci .i64)) (sz := 1) (fun _ => rfl) Nw) (xJ) Tryd.sizeOf127 fun w Nt M8 hS => ?_
  replace M8 : xM Nt Nd (No.flatMap (ci .i64)) 127 := by simpa using M8
  refine qA <| qm <| sM hS rfl fun hS => sO hS (yk rfl Tryd.runUnderlying66) rfl fun hS => ?_
  obtain ⟨NH, hM⟩ := qK hM
  refine Dw (g := (ci .i64)) (m := (MR.length : Int)) (0 : Int) hS rfl rfl (by simp) Tryd.runUnderlying66 X.el3 (fun w => ⟨_, Tryd.zeroValue3 w, rfl⟩) (fun _ => rfl) rfl rfl NH rfl fun NJ w MV MW NM hz NC hS => ?_
  have hM := qB hz hM; clear hz
  refine sA hS rfl fun hS => qA <| wp_seq <| qm <| sM hS rfl fun hS => sO hS (yk rfl Tryd.runUnderlying66) rfl fun hS => sM hS rfl fun hS => qA <| xS <| zv (fun Nx a w => ∃ (MS : (List Int)) (Nf : qk) (MT : (List Int)) (M6 : qk) (MY : Int), Ss 48 [] [(7, qL Nd 0), (8, .slice MV MT.length MW), (26, .slice M4 MR.length M5), (27, .int .i64 (MR.length : Int)), (28, .int .i64 MY)] H [Nf, M6] F a w ∧ (MS.length = 16) ∧ (xM Nf Nd (MS.flatMap (ci .i64)) 127) ∧ (xj 3 (ci .i64) 1 MV MT MW M6) ∧ (x9.l1 K MR Nx MS MT MY).wp kr kp) K ?_ ?_ ?_
  ·exact ⟨No, Nt, NJ, NM, (0 : Int), hS.to [1, 0] (by kernel_rfl) ⟨rfl, rfl, rfl, rfl, rfl, trivial⟩, Nw, M8, NC, hM⟩
  ·intro a w hI; obtain ⟨_, _, _, _, _, _, _, _, _, hM⟩ := hI; exact zt hM
  ·intro Nx a w hI NQ Nj
   obtain ⟨MS, Nf, MT, M6, MY, hS, MX, MZ, M0, hM⟩ := hI
   rw [x9.l1] at hM
   refine qm <| sB hS rfl fun hS => qA <| wp_seq <| qF hS rfl hM (fun NF hM => ?_) (fun NF hM => ?_)
   ·refine wp_skip ?_
    refine qe <| wp_seq <| xS <| qm <| sM hS rfl fun hS => ?_
    obtain ⟨Nl, hM⟩ := qK hM
    refine sO hS (yv rfl rfl Tryd.runUnderlying66 Tryd.sizeOf3 M3.wk (fun _ => rfl) rfl Nl) rfl fun hS => sO hS (yG rfl M3.wk (fun _ => rfl) Nl rfl Tryd.isAgg3) rfl fun hS => sA hS rfl fun hS => zG (v := Value.int .i64) (x0 := (rd MR MY)) hS (xD rfl) rfl fun Na a w hz hS => ?_
    have hM := qB hz hM; clear hz
    refine qA <| qm <| sM hS rfl fun hS => sB hS rfl fun hS => qA <| qF hS rfl hM (fun NG hM => ?_) (fun NG hM => ?_)
    ·refine wp_seq ?_
     refine zP <| sM hS rfl fun hS => sM hS rfl fun hS => sM hS rfl fun hS => ?_
     obtain ⟨MU, hM⟩ := qK hM
     refine sO hS (V5 rfl rfl Tryd.runUnderlying127 Tryd.sizeOf3 MU) rfl fun hS => sO hS (LG (xs := MS) (g := (ci .i64)) (pre := []) (post := []) 0 rfl MZ rfl (by simp) rfl (fun _ => rfl) (y9 MX MU) rfl Tryd.isAgg3) rfl fun hS => ?_
     obtain ⟨Nm, hM⟩ := qK hM
     refine sO hS (yv rfl rfl Tryd.runUnderlying66 Tryd.sizeOf3 (M0.rd (i := 1) rfl) (fun _ => rfl) rfl Nm) rfl fun hS => J4 (i := MY) (sz := 1) 1 0 ((rd MS Na)) hS rfl rfl M0 rfl Tryd.sizeOf3 (xJ (rd MS Na)) (fun _ => rfl) Nm rfl rfl fun Nb w NN hz Nn ND hS => ?_
     have hM := qB hz hM; clear hz
     replace hS := hS.re 8 (u := .slice MV MT.length MW) (v := .slice MV Nb.length MW) rfl (by rw [Nn])
     replace hS := hS.re 35 (u := .slice MV MT.length MW) (v := .slice MV Nb.length MW) rfl (by rw [Nn])
     refine qA <| zP <| sM hS rfl fun hS => sO hS (V5 rfl rfl Tryd.runUnderlying127 Tryd.sizeOf3 MU) rfl fun hS => sO hS (LG (xs := MS) (g := (ci .i64)) (pre := []) (post := []) 0 rfl MZ rfl (by simp) rfl (fun _ => rfl) (y9 MX MU) rfl Tryd.isAgg3) rfl fun hS => sB hS rfl fun hS => sO hS (V5 rfl rfl Tryd.runUnderlying127 Tryd.sizeOf3 MU) rfl fun hS => Gp (xs := MS) (g := (ci .i64)) (pre := []) (post := []) 0 ((qh ((rd MS Na) + (1 : Int)))) hS rfl rfl MZ rfl (by simp) rfl (fun _ => rfl) (y9 MX MU) rfl Tryd.sizeOf3 (xJ _) fun Nc w Nu hz M9 hS => ?_
     have NI : Nc.length = 16 := by rw [hz, List.length_set]; exact MX
     have hM := qB hz hM; clear hz
     replace M9 : xM Nu Nd (Nc.flatMap (ci .i64)) 127 := by simpa using M9
     refine zn <| zy (qe ?_)
     refine zP <| sB hS rfl fun hS => sM hS rfl fun hS => zn <| qe ?_
     exact Nj _ _ ⟨Nc, Nu, Nb, NN, (qh (MY + (1 : Int))), hS.to [0, 1] (by kernel_rfl) ⟨rfl, rfl, rfl, rfl, rfl, trivial⟩, NI, M9, ND, hM⟩
    ·refine wp_skip ?_
     refine zy (qe ?_)
     refine zP <| sB hS rfl fun hS => sM hS rfl fun hS => zn <| qe ?_
     exact Nj _ _ ⟨MS, Nf, MT, M6, (qh (MY + (1 : Int))), hS.to [0, 1] (by kernel_rfl) ⟨rfl, rfl, rfl, rfl, rfl, trivial⟩, MX, MZ, M0, hM⟩
   ·refine wp_exit ?_
    refine qE (qE (zd (qe ?_)))
    refine qm <| sM hS rfl fun hS => sA hS rfl fun hS => sA hS rfl fun hS => qA <| wp_ret ?_
    exact zD (rs := [2, 3]) hS rfl rfl (hret MV MW MT M6 (0 : Int) _ (q8 hM) M0 (hS.st.pick [1] (by kernel_rfl)))
theorem y4 {H : xT} {F : List qk} {w : World} {R : Ending → World → Prop} {kr : (List Int) → Prop} {kp : Value → Prop} (hG : Gl H) (K : Nat) (MR : List Int) (MS : Option Addr) (MT : Nat) (M7 : jT H [] F (ci .i64) MS MR) (M6 : MR.length ≤ MT)
    (hS : St w H [] F) (hm : (ye.m K MR).wp kr kp)
    (hret : ∀ (MY : Option Addr) (MZ : Nat) (MU : (List Int)) (M3 : qk) (w : World), kr MU → (xj 3 (ci .i64) 1 MY MU MZ M3) → St w H [M3] F → R (.returned (.agg ⟨[.slice MS MR.length MT, .slice MY MU.length MZ]⟩)) w) :
    Calls Tryd.prog 35 ⟨[.slice MS MR.length MT]⟩ w R := by
 refine enter Tryd.func35 rfl Tryd.ntmps35 rfl hS fun a w hS => ?_
 have hM := hm; clear hm
 rw [ye.m] at hM
 refine qm <| QF ([.slice none 0 0, .slice none 0 0]) hS Tryd.zeroValue68 rfl rfl fun w Nf M8 M4 hS => ?_
 obtain ⟨M9, Nc, hS⟩ := hS.nilV 3 (ci .i64) 1
 obtain ⟨Na, Nd, hS⟩ := hS.nilV 3 (ci .i64) 1
 refine qA <| qm <| sM hS rfl fun hS => qJ hS rfl Tryd.call52 (JC hG K MR MS MT (M7.app _) M6 (hS.st.part 0 [0, 1, 2] (by kernel_rfl)) (qt hM) (fun MV MW MX M0 Nh w hM Nb hst => qz hS.ev hst.appF rfl fun hS => ?_))
 replace hS : Ss _ _ _ H [M0, Na, M9, M8] F _ _ := hS
 refine sM hS rfl fun hS => sO hS (ex rfl rfl) rfl fun hS => sO hS (ex rfl rfl) rfl fun hS => sA hS rfl fun hS => sA hS rfl fun hS => qA <| qm <| sM hS rfl fun hS => sM hS rfl fun hS => sO hS (Xr ([.slice MS MR.length MT, .slice MV MX.length MW]) [(0, 1), (1, 1)] Tryd.zeroValue68 Tryd.runUnderlying68 (by intro w; simp [Tryd.sizeOf66]) rfl rfl) rfl fun hS => QU 3 ([.slice MS MR.length MT, .slice MV MX.length MW]) ([.slice MS MR.length MT, .slice MV MX.length MW]) hS rfl rfl M4 rfl rfl Tryd.sizeOf68 (by simp [Value.oneCell']) (Nat.le_of_ble_eq_true rfl) rfl fun w Ng M5 hS => qA <| wp_ret ?_
 exact jk (vs := [.agg ⟨[.slice MS MR.length MT, .slice MV MX.length MW]⟩]) hS rfl (by exact ⟨Kf 3 ([.slice MS MR.length MT, .slice MV MX.length MW]) rfl M5 rfl rfl rfl Tryd.isAgg68 Tryd.sizeOf68, trivial⟩) (hret MV MW MX M0 _ (q8 hM) Nb (hS.st.pick [0] (by kernel_rfl)))
theorem Qi {H : xT} {F : List qk} {w : World} {R : Ending → World → Prop} {kr : ((List Int) × (List Int) × (List Int) × (List Int)) → Prop} {kp : Value → Prop} (hG : Gl H) (K : Nat)
    (hS : St w H [] F) (hm : (qZ.m K).wp kr kp)
    (hret : ∀ (NK : Option Addr) (NO : Nat) (M0 : (List Int)) (NT : qk) (NL : Option Addr) (NP : Nat) (M6 : (List Int)) (NU : qk) (NM : Option Addr) (NQ : Nat) (M3 : (List Int)) (NV : qk) (NN : Option Addr) (NR : Nat) (M7 : (List Int)) (NW : qk) (w : World), kr (M0, M6, M3, M7) → (xj 3 (ci .i64) 1 NK M0 NO NT) → (xj 3 (ci .i64) 1 NL M6 NP NU) → (xj 3 (ci .i64) 1 NM M3 NQ NV) → (xj 3 (ci .i64) 1 NN M7 NR NW) → St w H [NT, NU, NV, NW] F → R (.returned (.tuple ⟨[.agg ⟨[.slice NK M0.length NO, .slice NL M6.length NP]⟩, .agg ⟨[.slice NM M3.length NQ, .slice NN M7.length NR]⟩]⟩)) w) :
    Calls Tryd.prog 29 ⟨[]⟩ w R := by
 refine enter Tryd.func29 rfl Tryd.ntmps29 rfl hS fun a w hS => ?_
 have hM := hm; clear hm
 rw [qZ.m] at hM
 refine qm <| QF ([.slice none 0 0, .slice none 0 0]) hS Tryd.zeroValue68 rfl rfl fun w Nx Na NZ hS => ?_
 obtain ⟨Nb, Pr, hS⟩ := hS.nilV 3 (ci .i64) 1
 obtain ⟨Nc, Ps, hS⟩ := hS.nilV 3 (ci .i64) 1
 refine QF ([.slice none 0 0, .slice none 0 0]) hS Tryd.zeroValue68 rfl rfl fun w Ny Nd N0 hS => ?_
 obtain ⟨Nf, Pt, hS⟩ := hS.nilV 3 (ci .i64) 1
 obtain ⟨Ng, Pv, hS⟩ := hS.nilV 3 (ci .i64) 1
 refine qA <| wp_seq <| zP ?_
 obtain ⟨Pg, hM⟩ := qK hM
 refine Dw (g := (ci .i64)) (m := (288 : Int)) (0 : Int) hS rfl rfl (by simp) Tryd.runUnderlying66 X.el3 (fun w => ⟨_, Tryd.zeroValue3 w, rfl⟩) (fun _ => rfl) rfl rfl Pg rfl fun Nr w MR MS Pi hz N6 hS => ?_
 have hM := qB hz hM; clear hz
 refine sA hS rfl fun hS => qA <| zm (fun a w => ∃ (MT : (List Int)) (M8 : qk), Ss 46 [] [(0, qL Nx 0), (1, qL Ny 0), (2, .slice MR MT.length MS)] H [Na, Nb, Nc, Nd, Nf, Ng, M8] F a w ∧ (xj 3 (ci .i64) 1 MR MT MS M8) ∧ (qZ.j2 K MT).wp kr kp) (fun Px N3 => ?_) ?_
 ·refine wp_seq ?_
  refine zP <| sM hS rfl fun hS => sO hS (yk rfl Tryd.runUnderlying66) rfl fun hS => sM hS rfl fun hS => qA <| xS <| zv (fun NX a w => ∃ (MU : (List Int)) (Nz : qk) (MX : Int), Ss 46 [] [(0, qL Nx 0), (1, qL Ny 0), (2, .slice MR MU.length MS), (8, .int .i64 (Nr.length : Int)), (9, .int .i64 MX)] H [Na, Nb, Nc, Nd, Nf, Ng, Nz] F a w ∧ (xj 3 (ci .i64) 1 MR MU MS Nz) ∧ (qZ.l1 K Nr NX MU MX).wp kr kp) K ?_ ?_ ?_
  ·exact ⟨Nr, Pi, (0 : Int), hS.to [6, 5, 4, 3, 2, 1, 0] (by kernel_rfl) ⟨rfl, rfl, rfl, rfl, rfl, trivial⟩, N6, hM⟩
  ·intro a w hI; obtain ⟨_, _, _, _, _, hM⟩ := hI; exact zt hM
  ·intro NX a w hI Pw Nn
   obtain ⟨MU, Nz, MX, hS, M5, hM⟩ := hI
   rw [qZ.l1] at hM
   refine qm <| sB hS rfl fun hS => qA <| wp_seq <| qF hS rfl hM (fun Pc hM => ?_) (fun Pc hM => ?_)
   ·refine wp_skip ?_
    refine qe <| wp_seq <| xS <| qm <| sM hS rfl fun hS => sA hS rfl fun hS => qA <| xS <| qm <| sM hS rfl fun hS => sB hS rfl fun hS => sM hS rfl fun hS => yJ 2 false 18 (b := (decide (MX < (144 : Int)))) (r := (decide (MX ≥ (280 : Int)))) hS rfl rfl rfl rfl rfl rfl rfl (fun hb a w hS K hK => ?_) rfl fun a w hS => ?_
    ·refine zW hS rfl rfl rfl hb (mv rfl) rfl fun a w hS => ?_
     refine zW hS rfl rfl rfl hb (js rfl rfl rfl) rfl fun a w hS => ?_
     exact zn (hK _ _ (hS.up 2 rfl rfl))
    refine zG (v := Value.bool) (x0 := ((decide (MX < (144 : Int))) || (decide (MX ≥ (280 : Int))))) hS (xD rfl) rfl fun PC a w hz hS => ?_
    have hM := qB hz hM; clear hz
    refine qA <| qF hS rfl hM (fun Pd hM => ?_) (fun Pd hM => ?_)
    ·refine zP ?_
     refine sM hS rfl fun hS => sM hS rfl fun hS => ?_
     obtain ⟨NC, hM⟩ := qK hM
     refine sO hS (yv rfl rfl Tryd.runUnderlying66 Tryd.sizeOf3 (M5.rd (i := 6) rfl) (fun _ => rfl) rfl NC) rfl fun hS => J4 (i := MX) (sz := 1) 6 0 ((8 : Int)) hS rfl rfl M5 rfl Tryd.sizeOf3 (xJ (8 : Int)) (fun _ => rfl) NC rfl rfl fun Ns w Pj hz NG N7 hS => ?_
     have hM := qB hz hM; clear hz
     replace hS := hS.re 2 (u := .slice MR MU.length MS) (v := .slice MR Ns.length MS) rfl (by rw [NG])
     replace hS := hS.re 22 (u := .slice MR MU.length MS) (v := .slice MR Ns.length MS) rfl (by rw [NG])
     refine zn <| zy (zy (qe ?_))
     refine zP <| sB hS rfl fun hS => sM hS rfl fun hS => zn <| qe ?_
     exact Nn _ _ ⟨Ns, Pj, (qh (MX + (1 : Int))), hS.to [0, 1, 2, 3, 4, 5, 6] (by kernel_rfl) ⟨rfl, rfl, rfl, rfl, rfl, trivial⟩, N7, hM⟩
    ·refine wp_seq ?_
     refine zP <| sM hS rfl fun hS => sB hS rfl fun hS => zG (v := Value.bool) (x0 := (decide (MX < (256 : Int)))) hS (xD rfl) rfl fun PD a w hz hS => ?_
     have hM := qB hz hM; clear hz
     refine qA <| qF hS rfl hM (fun Pe hM => ?_) (fun Pe hM => ?_)
     ·refine zP ?_
      refine sM hS rfl fun hS => sM hS rfl fun hS => ?_
      obtain ⟨ND, hM⟩ := qK hM
      refine sO hS (yv rfl rfl Tryd.runUnderlying66 Tryd.sizeOf3 (M5.rd (i := 6) rfl) (fun _ => rfl) rfl ND) rfl fun hS => J4 (i := MX) (sz := 1) 6 0 ((9 : Int)) hS rfl rfl M5 rfl Tryd.sizeOf3 (xJ (9 : Int)) (fun _ => rfl) ND rfl rfl fun Nt w Pk hz NH N8 hS => ?_
      have hM := qB hz hM; clear hz
      replace hS := hS.re 2 (u := .slice MR MU.length MS) (v := .slice MR Nt.length MS) rfl (by rw [NH])
      replace hS := hS.re 28 (u := .slice MR MU.length MS) (v := .slice MR Nt.length MS) rfl (by rw [NH])
      refine zn <| zy (zy (qe ?_))
      refine zP <| sB hS rfl fun hS => sM hS rfl fun hS => zn <| qe ?_
      exact Nn _ _ ⟨Nt, Pk, (qh (MX + (1 : Int))), hS.to [0, 1, 2, 3, 4, 5, 6] (by kernel_rfl) ⟨rfl, rfl, rfl, rfl, rfl, trivial⟩, N8, hM⟩
     ·refine zP ?_
      refine sM hS rfl fun hS => sM hS rfl fun hS => ?_
      obtain ⟨NE, hM⟩ := qK hM
      refine sO hS (yv rfl rfl Tryd.runUnderlying66 Tryd.sizeOf3 (M5.rd (i := 6) rfl) (fun _ => rfl) rfl NE) rfl fun hS => J4 (i := MX) (sz := 1) 6 0 ((7 : Int)) hS rfl rfl M5 rfl Tryd.sizeOf3 (xJ (7 : Int)) (fun _ => rfl) NE rfl rfl fun Nu w Pm hz NI N9 hS => ?_
      have hM := qB hz hM; clear hz
      replace hS := hS.re 2 (u := .slice MR MU.length MS) (v := .slice MR Nu.length MS) rfl (by rw [NI])
      replace hS := hS.re 12 (u := .slice MR MU.length MS) (v := .slice MR Nu.length MS) rfl (by rw [NI])
      refine zn <| zy (zy (qe ?_))
      refine zP <| sB hS rfl fun hS => sM hS rfl fun hS => zn <| qe ?_
      exact Nn _ _ ⟨Nu, Pm, (qh (MX + (1 : Int))), hS.to [0, 1, 2, 3, 4, 5, 6] (by kernel_rfl) ⟨rfl, rfl, rfl, rfl, rfl, trivial⟩, N9, hM⟩
   ·refine wp_exit ?_
    refine qE (qE (zd (qe ?_)))
    exact N3 _ _ ⟨MU, Nz, hS.to [0, 1, 2, 3, 4, 5, 6] (by kernel_rfl) ⟨rfl, rfl, rfl, trivial⟩, M5, hM⟩
 ·intro a w hI
  obtain ⟨MT, M8, hS, No, hM⟩ := hI
  rw [qZ.j2] at hM
  refine wp_seq <| zP ?_
  obtain ⟨Ph, hM⟩ := qK hM
  refine Dw (g := (ci .i64)) (m := (32 : Int)) (0 : Int) hS rfl rfl (by simp) Tryd.runUnderlying66 X.el3 (fun w => ⟨_, Tryd.zeroValue3 w, rfl⟩) (fun _ => rfl) rfl rfl Ph rfl fun Nv w MV MW Pn hz Pa hS => ?_
  have hM := qB hz hM; clear hz
  refine sA hS rfl fun hS => qA <| zm (fun a w => ∃ (M4 : (List Int)) (Nh : qk), Ss 46 [] [(0, qL Nx 0), (1, qL Ny 0), (2, .slice MR MT.length MS), (4, .slice MV M4.length MW)] H [Na, Nb, Nc, Nd, Nf, Ng, M8, Nh] F a w ∧ (xj 3 (ci .i64) 1 MV M4 MW Nh) ∧ (qZ.j4 K MT M4).wp kr kp) (fun Pz N5 => ?_) ?_
  ·refine wp_seq ?_
   refine zP <| sM hS rfl fun hS => sO hS (yk rfl Tryd.runUnderlying66) rfl fun hS => sM hS rfl fun hS => qA <| xS <| zv (fun NY a w => ∃ (M9 : (List Int)) (NA : qk) (Nm : Int), Ss 46 [] [(0, qL Nx 0), (1, qL Ny 0), (2, .slice MR MT.length MS), (4, .slice MV M9.length MW), (34, .int .i64 (Nv.length : Int)), (35, .int .i64 Nm)] H [Na, Nb, Nc, Nd, Nf, Ng, M8, NA] F a w ∧ (xj 3 (ci .i64) 1 MV M9 MW NA) ∧ (qZ.l3 K MT Nv NY M9 Nm).wp kr kp) K ?_ ?_ ?_
   ·exact ⟨Nv, Pn, (0 : Int), hS.to [1, 2, 3, 4, 5, 6, 7, 0] (by kernel_rfl) ⟨rfl, rfl, rfl, rfl, rfl, rfl, trivial⟩, Pa, hM⟩
   ·intro a w hI; obtain ⟨_, _, _, _, _, hM⟩ := hI; exact zt hM
   ·intro NY a w hI Py N4
    obtain ⟨M9, NA, Nm, hS, Np, hM⟩ := hI
    rw [qZ.l3] at hM
    refine qm <| sB hS rfl fun hS => qA <| wp_seq <| qF hS rfl hM (fun Pf hM => ?_) (fun Pf hM => ?_)
    ·refine wp_skip ?_
     refine qe <| wp_seq <| xS <| qm <| sM hS rfl fun hS => sA hS rfl fun hS => qA <| zP <| sM hS rfl fun hS => sM hS rfl fun hS => ?_
     obtain ⟨NF, hM⟩ := qK hM
     refine sO hS (yv rfl rfl Tryd.runUnderlying66 Tryd.sizeOf3 (Np.rd (i := 7) rfl) (fun _ => rfl) rfl NF) rfl fun hS => J4 (i := Nm) (sz := 1) 7 0 ((5 : Int)) hS rfl rfl Np rfl Tryd.sizeOf3 (xJ (5 : Int)) (fun _ => rfl) NF rfl rfl fun Nw w Po hz NJ Pb hS => ?_
     have hM := qB hz hM; clear hz
     replace hS := hS.re 4 (u := .slice MV M9.length MW) (v := .slice MV Nw.length MW) rfl (by rw [NJ])
     replace hS := hS.re 38 (u := .slice MV M9.length MW) (v := .slice MV Nw.length MW) rfl (by rw [NJ])
     refine zn <| zy (qe ?_)
     refine zP <| sB hS rfl fun hS => sM hS rfl fun hS => zn <| qe ?_
     exact N4 _ _ ⟨Nw, Po, (qh (Nm + (1 : Int))), hS.to [0, 1, 2, 3, 4, 5, 6, 7] (by kernel_rfl) ⟨rfl, rfl, rfl, rfl, rfl, rfl, trivial⟩, Pb, hM⟩
    ·refine wp_exit ?_
     refine qE (qE (zd (qe ?_)))
     exact N5 _ _ ⟨M9, NA, hS.to [0, 1, 2, 3, 4, 5, 6, 7] (by kernel_rfl) ⟨rfl, rfl, rfl, rfl, trivial⟩, Np, hM⟩
  ·intro a w hI
   obtain ⟨M4, Nh, hS, Nq, hM⟩ := hI
   rw [qZ.j4] at hM
   refine qm <| sM hS rfl fun hS => qJ hS rfl Tryd.call35 (y4 hG K MT MR MS (No.rdF (i := 6) rfl) (No.cap (fun _ => rfl) rfl) (hS.st.part 0 [0, 1, 2, 3, 4, 5, 6, 7] (by kernel_rfl)) (qt hM) (fun Ni Nk MY NB w hM Pp hst => qz hS.ev hst.appF rfl fun hS => ?_))
   replace hS : Ss _ _ _ H [NB, Na, Nb, Nc, Nd, Nf, Ng, M8, Nh] F _ _ := hS
   refine sM hS rfl fun hS => qJ hS rfl Tryd.call35 (y4 hG K M4 MV MW (Nq.rdF (i := 8) rfl) (Nq.cap (fun _ => rfl) rfl) (hS.st.part 0 [0, 1, 2, 3, 4, 5, 6, 7, 8] (by kernel_rfl)) (qt hM) (fun Nj Nl MZ NS w hM Pq hst => qz hS.ev hst.appF rfl fun hS => ?_))
   replace hS : Ss _ _ _ H [NS, NB, Na, Nb, Nc, Nd, Nf, Ng, M8, Nh] F _ _ := hS
   refine QU 2 ([.slice MR MT.length MS, .slice Ni MY.length Nk]) ([.slice MR MT.length MS, .slice Ni MY.length Nk]) hS rfl rfl NZ rfl rfl Tryd.sizeOf68 (by simp [Value.oneCell']) (Nat.le_of_ble_eq_true rfl) rfl fun w PA N1 hS => QU 5 ([.slice MV M4.length MW, .slice Nj MZ.length Nl]) ([.slice MV M4.length MW, .slice Nj MZ.length Nl]) hS rfl rfl N0 rfl rfl Tryd.sizeOf68 (by simp [Value.oneCell']) (Nat.le_of_ble_eq_true rfl) rfl fun w PB N2 hS => qA <| wp_ret ?_
   exact jk (vs := [.agg ⟨[.slice MR MT.length MS, .slice Ni MY.length Nk]⟩, .agg ⟨[.slice MV M4.length MW, .slice Nj MZ.length Nl]⟩]) hS rfl (by exact ⟨Kf 2 ([.slice MR MT.length MS, .slice Ni MY.length Nk]) rfl N1 rfl rfl rfl Tryd.isAgg68 Tryd.sizeOf68, Kf 5 ([.slice MV M4.length MW, .slice Nj MZ.length Nl]) rfl N2 rfl rfl rfl Tryd.isAgg68 Tryd.sizeOf68, trivial⟩) (hret MR MS MT M8 Ni Nk MY NB MV MW M4 Nh Nj Nl MZ NS _ (q8 hM) No Pp Nq Pq (hS.st.pick [8, 1, 9, 0] (by kernel_rfl)))
theorem zj {H : xT} {F : List qk} {w : World} {R : Ending → World → Prop} {kr : (Int × Int × (List Int)) → Prop} {kp : Value → Prop} (hG : Gl H) (K : Nat) (MS : qp) (Ny : Int) (M0 : Int) (MV : Nat) (Nv : qk) (Ns : Option Addr) (Nu : Nat) (Nw : qk) (M4 : Option Addr) (M8 : Nat) (Nk : qk) (M5 : Option Addr) (M9 : Nat) (Nl : qk) (M6 : Option Addr) (Na : Nat) (Nm : qk) (M7 : Option Addr) (Nb : Nat) (Nn : qk) (NA : xM Nv MV ([.int .i64 MS.Writer_.place_.at_, .slice Ns MS.Writer_.bytes_.length Nu, .slice M4 MS.literals_.lengths_.length M8, .slice M5 MS.literals_.codes_.length M9, .slice M6 MS.distances_.lengths_.length Na, .slice M7 MS.distances_.codes_.length Nb]) 70) (ND : xj 5 (ci .u8) 1 Ns MS.Writer_.bytes_ Nu Nw) (N8 : xj 3 (ci .i64) 1 M4 MS.literals_.lengths_ M8 Nk) (N9 : xj 3 (ci .i64) 1 M5 MS.literals_.codes_ M9 Nl) (Pa : xj 3 (ci .i64) 1 M6 MS.distances_.lengths_ Na Nm) (Pb : xj 3 (ci .i64) 1 M7 MS.distances_.codes_ Nb Nn)
    (hS : St w H [Nv, Nw, Nk, Nl, Nm, Nn] F) (hm : (qn.m K MS Ny M0).wp kr kp)
    (hret : ∀ (NN : Int) (Nt : Int) (NI : Option Addr) (NK : Nat) (M3 : (List Int)) (NL : qk) (NM : qk) (w : World), kr (NN, Nt, M3) → (xj 5 (ci .u8) 1 NI M3 NK NL) → (xM NM MV ([.int .i64 Nt, .slice NI M3.length NK, .slice M4 MS.literals_.lengths_.length M8, .slice M5 MS.literals_.codes_.length M9, .slice M6 MS.distances_.lengths_.length Na, .slice M7 MS.distances_.codes_.length Nb]) 70) → St w H [NM, NL, Nk, Nl, Nm, Nn] F → R (.returned (.int .i64 NN)) w) :
    Calls Tryd.prog 30 ⟨[qL MV 0, .int .u32 Ny, .int .i64 M0]⟩ w R := by
 refine enter Tryd.func30 rfl Tryd.ntmps30 rfl hS fun a w hS => ?_
 have hM := hm; clear hm
 rw [qn.m] at hM
 refine qm <| sA hS rfl fun hS => qA <| wp_seq <| qm <| sM hS rfl fun hS => sO hS (XR rfl rfl Tryd.runUnderlying105) rfl fun hS => sM hS rfl fun hS => zW hS rfl rfl rfl rfl (mv rfl) rfl fun a w hS => zW hS rfl rfl rfl rfl (js rfl rfl rfl) rfl fun a w hS => sO hS (pk rfl rfl rfl) rfl fun hS => sM hS rfl fun hS => yJ 2 false 14 (b := (decide (M0 < (0 : Int)))) (r := (decide (M0 > (32 : Int)))) hS rfl rfl rfl rfl rfl rfl rfl (fun hb a w hS K hK => ?_) rfl fun a w hS => ?_
 ·refine zW hS rfl rfl rfl hb (mv rfl) rfl fun a w hS => ?_
  refine zW hS rfl rfl rfl hb (js rfl rfl rfl) rfl fun a w hS => ?_
  exact zn (hK _ _ (hS.up 2 rfl rfl))
 refine sM hS rfl fun hS => ?_
 obtain ⟨NY, hM⟩ := qK hM
 refine yJ 5 false 18 (b := ((decide (M0 < (0 : Int))) || (decide (M0 > (32 : Int))))) (r := (decide ((xa .u64 (wr .u64 Ny) M0) > (0 : Int)))) hS rfl rfl rfl rfl rfl rfl rfl (fun hb a w hS K hK => ?_) rfl fun a w hS => ?_
 ·refine zW hS rfl rfl rfl hb (mv rfl) rfl fun a w hS => ?_
  refine zW hS rfl rfl rfl hb (u7 rfl Tryd.runUnderlying25 Tryd.runUnderlying36) rfl fun a w hS => zW hS rfl rfl rfl hb (mv rfl) rfl fun a w hS => ?_
  have NX := GX NY hb
  refine zW hS rfl rfl rfl hb (shr rfl rfl NX) rfl fun a w hS => zW hS rfl rfl rfl hb (js rfl rfl rfl) rfl fun a w hS => ?_
  exact zn (hK _ _ (hS.up 5 rfl rfl))
 refine qA <| qF hS rfl hM (fun NU hM => ?_) (fun NU hM => ?_)
 ·refine wp_seq ?_
  refine zP <| sA hS rfl fun hS => qA <| wp_ret <| zl ?_
  exact zD (rs := [6]) hS rfl rfl (hret (1 : Int) MS.Writer_.place_.at_ Ns Nu MS.Writer_.bytes_ Nw Nv _ (q8 hM) ND NA (hS.st.pick [0, 1, 2, 3, 4, 5] (by kernel_rfl)))
 ·refine wp_skip ?_
  refine qe <| wp_seq <| xS <| zv (fun NF a w => ∃ (MR : Int) (Ni : Option Addr) (Nj : Nat) (MX : (List Int)) (No : qk) (Np : qk) (MW : Int) (MZ : Int), Ss 95 [] [(0, qL MV 0), (1, .int .u32 MW), (2, .int .i64 MZ)] H [Np, No, Nk, Nl, Nm, Nn] F a w ∧ (xj 5 (ci .u8) 1 Ni MX Nj No) ∧ (xM Np MV ([.int .i64 MR, .slice Ni MX.length Nj, .slice M4 MS.literals_.lengths_.length M8, .slice M5 MS.literals_.codes_.length M9, .slice M6 MS.distances_.lengths_.length Na, .slice M7 MS.distances_.codes_.length Nb]) 70) ∧ (qn.l1 K NF MR MX MW MZ).wp kr kp) K ?_ ?_ ?_
  ·exact ⟨MS.Writer_.place_.at_, Ns, Nu, MS.Writer_.bytes_, Nw, Nv, Ny, M0, hS.to [0, 1, 2, 3, 4, 5] (by kernel_rfl) ⟨rfl, rfl, rfl, trivial⟩, ND, NA, hM⟩
  ·intro a w hI; obtain ⟨_, _, _, _, _, _, _, _, _, _, _, hM⟩ := hI; exact zt hM
  ·intro NF a w hI Pe NQ
   obtain ⟨MR, Ni, Nj, MX, No, Np, MW, MZ, hS, Nq, Nd, hM⟩ := hI
   rw [qn.l1] at hM
   refine wp_seq <| qm <| sM hS rfl fun hS => sB hS rfl fun hS => qA <| qF hS rfl hM (fun NV hM => ?_) (fun NV hM => ?_)
   ·refine wp_skip ?_
    refine qe <| xS <| zm (fun a w => ∃ (MY : Option Addr) (Nc : Nat) (MU : (List Int)) (Nz : qk) (Nx : qk), Ss 95 [] [(0, qL MV 0), (1, .int .u32 MW), (2, .int .i64 MZ)] H [Nx, Nz, Nk, Nl, Nm, Nn] F a w ∧ (xj 5 (ci .u8) 1 MY MU Nc Nz) ∧ (xM Nx MV ([.int .i64 MR, .slice MY MU.length Nc, .slice M4 MS.literals_.lengths_.length M8, .slice M5 MS.literals_.codes_.length M9, .slice M6 MS.distances_.lengths_.length Na, .slice M7 MS.distances_.codes_.length Nb]) 70) ∧ (qn.j2 K (qn.l1 K NF) MR MW MZ MU).wp kr kp) (fun Pd NC => ?_) ?_
    ·refine wp_seq ?_
     refine zP <| sM hS rfl fun hS => sO hS (yy rfl) rfl fun hS => sO hS (xv rfl Tryd.runUnderlying65 rfl Tryd.sizeOf63 rfl) rfl fun hS => sO hS (xv rfl Tryd.runUnderlying63 rfl Tryd.sizeOf3 rfl) rfl fun hS => sO hS (x5 0 rfl Nd rfl rfl Tryd.isAgg3) rfl fun hS => sB hS rfl fun hS => sB hS rfl fun hS => qA <| qF hS rfl hM (fun NW hM => ?_) (fun NW hM => ?_)
     ·refine zP ?_
      refine sM hS rfl fun hS => sM hS rfl fun hS => sO hS (yy rfl) rfl fun hS => sO hS (xv rfl Tryd.runUnderlying65 rfl Tryd.sizeOf32 rfl) rfl fun hS => sO hS (x5 0 rfl Nd rfl rfl Tryd.isAgg32) rfl fun hS => J2 (g := (ci .u8)) ([(0 : Int)] : List Int) [.int .u8 (0 : Int)] hS Tryd.runUnderlying32 Tryd.sizeOf5 X.el5 rfl rfl rfl (by simp [Value.cells]) rfl rfl rfl rfl rfl fun w Pc Pf Pg NR hS => ?_
      obtain ⟨NZ, hM⟩ := qK hM
      refine J1 (ys := ([(0 : Int)] : List Int)) 2 hS rfl rfl Nq rfl (NR.rd (i := 0) rfl) Tryd.runUnderlying32 Tryd.runUnderlying32 X.el5 (fun _ => rfl) rfl Qv NZ rfl fun NG w NH NJ N3 hz NS hS => ?_
      have hM := qB hz hM; clear hz
      refine sO hS (yy rfl) rfl fun hS => sO hS (xv rfl Tryd.runUnderlying65 rfl Tryd.sizeOf32 rfl) rfl fun hS => J5 1 ([.int .i64 MR, .slice NH NG.length NJ, .slice M4 MS.literals_.lengths_.length M8, .slice M5 MS.literals_.codes_.length M9, .slice M6 MS.distances_.lengths_.length Na, .slice M7 MS.distances_.codes_.length Nb]) hS rfl rfl Nd rfl rfl rfl rfl Tryd.sizeOf32 fun w N4 NO hS => zn <| qe ?_
      exact NC _ _ ⟨NH, NJ, NG, N3, N4, hS.to [1, 2, 3, 4, 5, 6] (by kernel_rfl) ⟨rfl, rfl, rfl, trivial⟩, NS, NO, hM⟩
     ·refine wp_skip ?_
      refine qe ?_
      exact NC _ _ ⟨Ni, Nj, MX, No, Np, hS.to [0, 1, 2, 3, 4, 5] (by kernel_rfl) ⟨rfl, rfl, rfl, trivial⟩, Nq, Nd, hM⟩
    ·intro a w hI
     obtain ⟨MY, Nc, MU, Nz, Nx, hS, Ng, Nf, hM⟩ := hI
     rw [qn.j2] at hM
     refine qm <| sM hS rfl fun hS => sO hS (yy rfl) rfl fun hS => sO hS (xv rfl Tryd.runUnderlying65 rfl Tryd.sizeOf63 rfl) rfl fun hS => sO hS (xv rfl Tryd.runUnderlying63 rfl Tryd.sizeOf3 rfl) rfl fun hS => sO hS (x5 0 rfl Nf rfl rfl Tryd.isAgg3) rfl fun hS => sB hS rfl fun hS => sB hS rfl fun hS => sM hS rfl fun hS => sO hS (Ul rfl rfl) rfl fun hS => zG (v := Value.int .i64) (x0 := (if MZ < (qh ((8 : Int) - (xE .i64 MR (7 : Int)))) then MZ else (qh ((8 : Int) - (xE .i64 MR (7 : Int)))))) hS (xD rfl) rfl fun MT a w hz hS => ?_
     have hM := qB hz hM; clear hz
     refine qA <| wp_seq ?_
     obtain ⟨Nh, hM⟩ := qK hM
     obtain ⟨NE, hM⟩ := qK hM
     obtain ⟨N0, hM⟩ := qK hM
     refine za (vals := [some (qL MV 0), some (qL MV 0), some (qL MV 1), some (.slice MY MU.length Nc), some (qL MV 0), some (qL MV 0), some (qL MV 0), some (qL MV 0), some (.int .i64 MR), some (.int .i64 (yR .i64 MR (8 : Int))), some (xI MY (Int.toNat (yR .i64 MR (8 : Int)) * 1)), some (.int .u8 (rd MU (yR .i64 MR (8 : Int)))), some (.int .u32 MW), some (.int .i64 MT), some (.int .u32 (z7 .u32 (1 : Int) MT)), some (.int .u32 (wr .u32 ((z7 .u32 (1 : Int) MT) - (1 : Int)))), some (.int .u32 (xE .u32 MW (wr .u32 ((z7 .u32 (1 : Int) MT) - (1 : Int))))), some (.int .u8 (wr .u8 (xE .u32 MW (wr .u32 ((z7 .u32 (1 : Int) MT) - (1 : Int)))))), some (qL MV 0), some (qL MV 0), some (qL MV 0), some (qL MV 0), some (.int .i64 MR), some (.int .i64 (xE .i64 MR (7 : Int))), some (.int .u8 (z7 .u8 (wr .u8 (xE .u32 MW (wr .u32 ((z7 .u32 (1 : Int) MT) - (1 : Int))))) (xE .i64 MR (7 : Int)))), some (.int .u8 (QP .u8 (rd MU (yR .i64 MR (8 : Int))) (z7 .u8 (wr .u8 (xE .u32 MW (wr .u32 ((z7 .u32 (1 : Int) MT) - (1 : Int))))) (xE .i64 MR (7 : Int))))), some (xI MY (Int.toNat (yR .i64 MR (8 : Int)) * 1)), none]) hS xG rfl ?_
     intro l w ho hcl hA hst
     refine jg hA hst ho hcl xx xH 27 [0, 1, 2, 3, 4, 5, 6, 7, 8, 9, 10, 11, 12, 13, 14, 15, 16, 17, 18, 19, 20, 21, 22, 23, 24, 25, 26] rfl rfl rfl rfl rfl (by exact ⟨nM rfl, nQ rfl (by exact qW (yy rfl) rfl), nQ rfl (by exact qW (xv rfl Tryd.runUnderlying65 rfl Tryd.sizeOf32 rfl) rfl), nQ rfl (by exact qW (x5 0 rfl Nf rfl rfl Tryd.isAgg32) rfl), nM rfl, nQ rfl (by exact qW (yy rfl) rfl), nQ rfl (by exact qW (xv rfl Tryd.runUnderlying65 rfl Tryd.sizeOf63 rfl) rfl), nQ rfl (by exact qW (xv rfl Tryd.runUnderlying63 rfl Tryd.sizeOf3 rfl) rfl), nQ rfl (by exact qW (x5 0 rfl Nf rfl rfl Tryd.isAgg3) rfl), nQ rfl (by exact qW (quo rfl rfl rfl) rfl), nQ rfl (by exact qW (yv rfl rfl Tryd.runUnderlying32 Tryd.sizeOf5 (Ng.rd (i := 1) rfl) (fun _ => rfl) rfl Nh) rfl), nQ rfl (by exact qW (yG rfl (Ng.rd (i := 1) rfl) (fun _ => rfl) Nh rfl Tryd.isAgg5) rfl), nM rfl, nM rfl, nQ rfl (by exact qW (shl rfl rfl NE) rfl), nB rfl, nB rfl, nQ rfl (by exact qW (u7 rfl Tryd.runUnderlying25 Tryd.runUnderlying5) rfl), nM rfl, nQ rfl (by exact qW (yy rfl) rfl), nQ rfl (by exact qW (xv rfl Tryd.runUnderlying65 rfl Tryd.sizeOf63 rfl) rfl), nQ rfl (by exact qW (xv rfl Tryd.runUnderlying63 rfl Tryd.sizeOf3 rfl) rfl), nQ rfl (by exact qW (x5 0 rfl Nf rfl rfl Tryd.isAgg3) rfl), nB rfl, nQ rfl (by exact qW (shl rfl rfl N0) rfl), nB rfl, nQ rfl (by exact qW (yv rfl rfl Tryd.runUnderlying32 Tryd.sizeOf5 (Ng.rd (i := 1) rfl) (fun _ => rfl) rfl Nh) rfl), trivial⟩) fun D l a w ho hcl hav hpre hm hE hk hA hst => ?_
     have hS := (Ss.mk hE hst).env2 (e' := [(77, .int .u8 (QP .u8 (rd MU (yR .i64 MR (8 : Int))) (z7 .u8 (wr .u8 (xE .u32 MW (wr .u32 ((z7 .u32 (1 : Int) MT) - (1 : Int))))) (xE .i64 MR (7 : Int))))), (78, xI MY (Int.toNat (yR .i64 MR (8 : Int)) * 1))]) ⟨rfl, rfl, trivial⟩
     refine qQ rfl <| J4 (i := (yR .i64 MR (8 : Int))) (sz := 1) 1 0 ((QP .u8 (rd MU (yR .i64 MR (8 : Int))) (z7 .u8 (wr .u8 (xE .u32 MW (wr .u32 ((z7 .u32 (1 : Int) MT) - (1 : Int))))) (xE .i64 MR (7 : Int))))) hS rfl rfl Ng rfl Tryd.sizeOf5 (Qv (QP .u8 (rd MU (yR .i64 MR (8 : Int))) (z7 .u8 (wr .u8 (xE .u32 MW (wr .u32 ((z7 .u32 (1 : Int) MT) - (1 : Int))))) (xE .i64 MR (7 : Int))))) (fun _ => rfl) Nh rfl rfl fun Nr w N5 hz N1 NT hS => ?_
     have hM := qB hz hM; clear hz
     have NB : xM Nx MV ([.int .i64 MR, .slice MY Nr.length Nc, .slice M4 MS.literals_.lengths_.length M8, .slice M5 MS.literals_.codes_.length M9, .slice M6 MS.distances_.lengths_.length Na, .slice M7 MS.distances_.codes_.length Nb]) 70 := by rw [N1]; exact Nf
     refine qA ?_
     replace hst := hS.st
     obtain ⟨hcl, hmust, hav2, hA⟩ := XQ (vals' := [some (qL MV 0), some (qL MV 0), some (qL MV 1), some (.slice MY MU.length Nc), some (qL MV 0), some (qL MV 0), some (qL MV 0), some (qL MV 0), some (.int .i64 MR), some (.int .i64 (yR .i64 MR (8 : Int))), some (xI MY (Int.toNat (yR .i64 MR (8 : Int)) * 1)), some (.int .u8 (rd MU (yR .i64 MR (8 : Int)))), some (.int .u32 MW), some (.int .i64 MT), some (.int .u32 (z7 .u32 (1 : Int) MT)), some (.int .u32 (wr .u32 ((z7 .u32 (1 : Int) MT) - (1 : Int)))), some (.int .u32 (xE .u32 MW (wr .u32 ((z7 .u32 (1 : Int) MT) - (1 : Int))))), some (.int .u8 (wr .u8 (xE .u32 MW (wr .u32 ((z7 .u32 (1 : Int) MT) - (1 : Int)))))), some (qL MV 0), some (qL MV 0), some (qL MV 0), some (qL MV 0), some (.int .i64 MR), some (.int .i64 (xE .i64 MR (7 : Int))), some (.int .u8 (z7 .u8 (wr .u8 (xE .u32 MW (wr .u32 ((z7 .u32 (1 : Int) MT) - (1 : Int))))) (xE .i64 MR (7 : Int)))), some (.int .u8 (QP .u8 (rd MU (yR .i64 MR (8 : Int))) (z7 .u8 (wr .u8 (xE .u32 MW (wr .u32 ((z7 .u32 (1 : Int) MT) - (1 : Int))))) (xE .i64 MR (7 : Int))))), some (xI MY (Int.toNat (yR .i64 MR (8 : Int)) * 1)), some undef]) 27 [(0, 27), (1, 27), (2, 27), (3, 27), (4, 27), (5, 27), (6, 27), (7, 27), (8, 27), (9, 27), (10, 27), (11, 27), (12, 27), (13, 27), (14, 27), (15, 27), (16, 27), (17, 27), (18, 27), (19, 27), (20, 27), (21, 27), (22, 27), (23, 27), (24, 27), (25, 27), (26, 27)] hA hcl hav hm hpre rfl rfl rfl rfl rfl
     clear hm hav
     refine ym hA hst ho hcl hmust [] rfl rfl rfl trivial fun a w hS => ?_
     replace hS := hS.env2 (e' := [(0, qL MV 0), (1, .int .u32 MW), (2, .int .i64 MZ), (7, .int .i64 MT)]) ⟨rfl, rfl, rfl, rfl, trivial⟩
     refine qe <| qm <| sM hS rfl fun hS => sM hS rfl fun hS => sO hS (shr rfl rfl NE) rfl fun hS => zG (v := Value.int .u32) (x0 := (xa .u32 MW MT)) hS (xD rfl) rfl fun N7 a w hz hS => ?_
     have hM := qB hz hM; clear hz
     refine qA <| qm <| sM hS rfl fun hS => sO hS (yy rfl) rfl fun hS => sO hS (xv rfl Tryd.runUnderlying65 rfl Tryd.sizeOf63 rfl) rfl fun hS => sO hS (xv rfl Tryd.runUnderlying63 rfl Tryd.sizeOf3 rfl) rfl fun hS => sO hS (x5 0 rfl NB rfl rfl Tryd.isAgg3) rfl fun hS => sM hS rfl fun hS => sB hS rfl fun hS => sO hS (yy rfl) rfl fun hS => sO hS (xv rfl Tryd.runUnderlying65 rfl Tryd.sizeOf63 rfl) rfl fun hS => sO hS (xv rfl Tryd.runUnderlying63 rfl Tryd.sizeOf3 rfl) rfl fun hS => J5 0 ([.int .i64 (qh (MR + MT)), .slice MY Nr.length Nc, .slice M4 MS.literals_.lengths_.length M8, .slice M5 MS.literals_.codes_.length M9, .slice M6 MS.distances_.lengths_.length Na, .slice M7 MS.distances_.codes_.length Nb]) hS rfl rfl NB rfl rfl rfl rfl Tryd.sizeOf3 fun w N6 NP hS => qA <| zP <| sM hS rfl fun hS => sM hS rfl fun hS => sB hS rfl fun hS => zG (v := Value.int .i64) (x0 := (qh (MZ - MT))) hS (xD rfl) rfl fun N2 a w hz hS => ?_
     have hM := qB hz hM; clear hz
     refine zn <| zy (qe ?_)
     exact NQ _ _ ⟨(qh (MR + MT)), MY, Nc, Nr, N5, N6, N7, N2, hS.to [0, 1, 2, 3, 4, 5] (by kernel_rfl) ⟨rfl, rfl, rfl, trivial⟩, NT, NP, hM⟩
   ·refine wp_exit ?_
    refine qE (qE (zd (qe ?_)))
    refine qm <| sA hS rfl fun hS => qA <| wp_ret ?_
    exact zD (rs := [6]) hS rfl rfl (hret (0 : Int) MR Ni Nj MX No Np _ (q8 hM) Nq Nd (hS.st.pick [0, 1, 2, 3, 4, 5] (by kernel_rfl)))
theorem yq {H : xT} {F : List qk} {w : World} {R : Ending → World → Prop} {kr : (Int × (List Int)) → Prop} {kp : Value → Prop} (hG : Gl H) (K : Nat) (MR : qp) (NE : qv) (MS : Int) (MV : Nat) (No : qk) (Nm : Option Addr) (Nn : Nat) (Np : qk) (M0 : Option Addr) (M3 : Nat) (M4 : qk) (MW : Option Addr) (MY : Nat) (M5 : qk) (M8 : Option Addr) (Nb : Nat) (M6 : qk) (M9 : Option Addr) (Nc : Nat) (M7 : qk) (NF : xM No MV ([.int .i64 MR.Writer_.place_.at_, .slice Nm MR.Writer_.bytes_.length Nn, .slice M0 MR.literals_.lengths_.length M3, .slice MW MR.literals_.codes_.length MY, .slice M8 MR.distances_.lengths_.length Nb, .slice M9 MR.distances_.codes_.length Nc]) 70) (NH : xj 5 (ci .u8) 1 Nm MR.Writer_.bytes_ Nn Np) (Nh : xj 3 (ci .i64) 1 M0 MR.literals_.lengths_ M3 M4) (Ni : xj 3 (ci .i64) 1 MW MR.literals_.codes_ MY M5) (NI : xj 3 (ci .i64) 1 M8 MR.distances_.lengths_ Nb M6) (NJ : xj 3 (ci .i64) 1 M9 MR.distances_.codes_ Nc M7)
    (hS : St w H [No, Np, M4, M5, M6, M7] F) (hm : (zJ.m K MR NE MS).wp kr kp)
    (hret : ∀ (Nj : Int) (Nw : Option Addr) (Nx : Nat) (MZ : (List Int)) (NB : qk) (NC : qk) (w : World), kr (Nj, MZ) → (xj 5 (ci .u8) 1 Nw MZ Nx NB) → (xM NC MV ([.int .i64 Nj, .slice Nw MZ.length Nx, .slice M0 MR.literals_.lengths_.length M3, .slice MW MR.literals_.codes_.length MY, .slice M8 MR.distances_.lengths_.length Nb, .slice M9 MR.distances_.codes_.length Nc]) 70) → St w H [NC, NB, M4, M5, M6, M7] F → R (.returned (.tuple ⟨[]⟩)) w) :
    Calls Tryd.prog 39 ⟨[qL MV 0, .agg ⟨[.slice M0 MR.literals_.lengths_.length M3, .slice MW MR.literals_.codes_.length MY]⟩, .int .i64 MS]⟩ w R := by
 refine enter Tryd.func39 rfl Tryd.ntmps39 rfl hS fun a w hS => ?_
 have hM := hm; clear hm
 rw [zJ.m] at hM
 refine qm <| bx ([.slice M0 MR.literals_.lengths_.length M3, .slice MW MR.literals_.codes_.length MY]) hS rfl rfl rfl fun w Nk Ny Nq hS => qA <| qm <| sO hS (xv rfl Tryd.runUnderlying68 rfl Tryd.sizeOf66 rfl) rfl fun hS => sO hS (x5 0 rfl Nq rfl rfl Tryd.isAgg66) rfl fun hS => sM hS rfl fun hS => ?_
 obtain ⟨Nt, hM⟩ := qK hM
 refine sO hS (yv rfl rfl Tryd.runUnderlying66 Tryd.sizeOf3 (Nh.rd (i := 3) rfl) (fun _ => rfl) rfl Nt) rfl fun hS => sO hS (yG rfl (Nh.rd (i := 3) rfl) (fun _ => rfl) Nt rfl Tryd.isAgg3) rfl fun hS => sB hS rfl fun hS => zG (v := Value.int .i64) (x0 := (qh ((rd MR.literals_.lengths_ MS) - (1 : Int)))) hS (xD rfl) rfl fun NQ a w hz hS => ?_
 have hM := qB hz hM; clear hz
 refine qA <| xS <| zv (fun ND a w => ∃ (MX : Int) (Na : Option Addr) (Nd : Nat) (MT : (List Int)) (Nf : qk) (Ng : qk) (MU : Int), Ss 30 [] [(0, qL MV 0), (2, .int .i64 MS), (4, qL Nk 0), (6, .int .i64 MU)] H [Ng, Nf, M4, M5, M6, M7, Ny] F a w ∧ (xj 5 (ci .u8) 1 Na MT Nd Nf) ∧ (xM Ng MV ([.int .i64 MX, .slice Na MT.length Nd, .slice M0 MR.literals_.lengths_.length M3, .slice MW MR.literals_.codes_.length MY, .slice M8 MR.distances_.lengths_.length Nb, .slice M9 MR.distances_.codes_.length Nc]) 70) ∧ (zJ.l1 K MR MS ND MX MT MU).wp kr kp) K ?_ ?_ ?_
 ·exact ⟨MR.Writer_.place_.at_, Nm, Nn, MR.Writer_.bytes_, Np, No, NQ, hS.to [1, 2, 3, 4, 5, 6, 0] (by kernel_rfl) ⟨rfl, rfl, rfl, rfl, trivial⟩, NH, NF, hM⟩
 ·intro a w hI; obtain ⟨_, _, _, _, _, _, _, _, _, _, hM⟩ := hI; exact zt hM
 ·intro ND a w hI NT NG
  obtain ⟨MX, Na, Nd, MT, Nf, Ng, MU, hS, Ns, Nr, hM⟩ := hI
  rw [zJ.l1] at hM
  refine wp_seq <| qm <| sM hS rfl fun hS => sB hS rfl fun hS => qA <| qF hS rfl hM (fun NK hM => ?_) (fun NK hM => ?_)
  ·refine wp_skip ?_
   refine qe <| wp_seq <| xS ?_
   obtain ⟨Nu, hM⟩ := qK hM
   obtain ⟨NL, hM⟩ := qK hM
   refine za (vals := [some (qL MV 0), some (qL MV 0), some (qL MV 0), some (qL Nk 1), some (.slice MW MR.literals_.codes_.length MY), some (.int .i64 MS), some (xI MW (Int.toNat MS * 1)), some (.int .i64 (rd MR.literals_.codes_ MS)), some (.int .i64 MU), some (.int .i64 (xa .i64 (rd MR.literals_.codes_ MS) MU)), some (.int .i64 (xE .i64 (xa .i64 (rd MR.literals_.codes_ MS) MU) (1 : Int))), some (.int .u32 (wr .u32 (xE .i64 (xa .i64 (rd MR.literals_.codes_ MS) MU) (1 : Int)))), none]) hS xG rfl ?_
   intro l w ho hcl hA hst
   refine jg hA hst ho hcl xx xH 12 [0, 1, 2, 3, 4, 5, 6, 7, 8, 9, 10, 11] rfl rfl rfl rfl rfl (by exact ⟨nM rfl, nQ rfl (by exact qW (yy rfl) rfl), nQ rfl (by exact qW (xv rfl Tryd.runUnderlying70 rfl Tryd.sizeOf65 rfl) rfl), nQ rfl (by exact qW (xv rfl Tryd.runUnderlying68 rfl Tryd.sizeOf66 rfl) rfl), nQ rfl (by exact qW (x5 6 rfl Nq rfl rfl Tryd.isAgg66) rfl), nM rfl, nQ rfl (by exact qW (yv rfl rfl Tryd.runUnderlying66 Tryd.sizeOf3 (Ni.rd (i := 3) rfl) (fun _ => rfl) rfl Nu) rfl), nQ rfl (by exact qW (yG rfl (Ni.rd (i := 3) rfl) (fun _ => rfl) Nu rfl Tryd.isAgg3) rfl), nM rfl, nQ rfl (by exact qW (shr rfl rfl NL) rfl), nB rfl, nQ rfl (by exact qW (u7 rfl Tryd.runUnderlying3 Tryd.runUnderlying25) rfl), trivial⟩) fun D l a w ho hcl hav hpre hm hE hk hA hst => ?_
   have hS := (Ss.mk hE hst).env2 (e' := [(19, qL MV 0), (28, .int .u32 (wr .u32 (xE .i64 (xa .i64 (rd MR.literals_.codes_ MS) MU) (1 : Int))))]) ⟨rfl, rfl, trivial⟩
   refine qQ rfl <| qJ hS rfl Tryd.call30 (zj hG K (qp.mk (qR.mk (qr.mk MX) MT) MR.literals_ MR.distances_) (wr .u32 (xE .i64 (xa .i64 (rd MR.literals_.codes_ MS) MU) (1 : Int))) (1 : Int) MV Ng Na Nd Nf M0 M3 M4 MW MY M5 M8 Nb M6 M9 Nc M7 Nr Ns Nh Ni NI NJ (hS.st.part 6 [0, 1, 2, 3, 4, 5, 6] (by kernel_rfl)) (qt hM) (fun NS Nv NM NN Nl Nz NA w hM NO NP hst => qz hS.ev hst.appF rfl fun hS => ?_))
   replace hS : Ss _ _ _ H [NA, Nz, M4, M5, M6, M7, Ny] F _ _ := hS
   refine qA ?_
   replace hst := hS.st
   obtain ⟨hcl, hmust, hav2, hA⟩ := dn (vals' := [some (qL MV 0), some (qL MV 0), some (qL MV 0), some (qL Nk 1), some (.slice MW MR.literals_.codes_.length MY), some (.int .i64 MS), some (xI MW (Int.toNat MS * 1)), some (.int .i64 (rd MR.literals_.codes_ MS)), some (.int .i64 MU), some (.int .i64 (xa .i64 (rd MR.literals_.codes_ MS) MU)), some (.int .i64 (xE .i64 (xa .i64 (rd MR.literals_.codes_ MS) MU) (1 : Int))), some (.int .u32 (wr .u32 (xE .i64 (xa .i64 (rd MR.literals_.codes_ MS) MU) (1 : Int)))), some (.int .i64 NS)]) 12 [(2, 12), (11, 12), (1, 2), (10, 11), (0, 1), (9, 10), (7, 9), (8, 9), (6, 7), (4, 6), (5, 6), (3, 4)] hA hcl hav hm hpre hk rfl rfl rfl rfl rfl rfl rfl
   clear hm hav
   refine ym hA hst ho hcl hmust [] rfl rfl rfl trivial fun a w hS => ?_
   replace hS := hS.env2 (e' := [(0, qL MV 0), (2, .int .i64 MS), (4, qL Nk 0), (6, .int .i64 MU)]) ⟨rfl, rfl, rfl, rfl, trivial⟩
   refine zy (qe ?_)
   refine zP <| sM hS rfl fun hS => sB hS rfl fun hS => zG (v := Value.int .i64) (x0 := (qh (MU - (1 : Int)))) hS (xD rfl) rfl fun NR a w hz hS => ?_
   have hM := qB hz hM; clear hz
   refine zn <| qe ?_
   exact NG _ _ ⟨Nv, NM, NN, Nl, Nz, NA, NR, hS.to [0, 1, 2, 3, 4, 5, 6] (by kernel_rfl) ⟨rfl, rfl, rfl, rfl, trivial⟩, NO, NP, hM⟩
  ·refine wp_exit ?_
   refine qE (qE (zd ?_))
   exact jR (rs := []) hS rfl rfl (hret MX Na Nd MT Nf Ng _ (q8 hM) Ns Nr (hS.st.pick [0, 1, 2, 3, 4, 5] (by kernel_rfl)))
theorem ux {H : xT} {F : List qk} {w : World} {R : Ending → World → Prop} {kr : (Int × Int × Int) → Prop} {kp : Value → Prop} (hG : Gl H) (K : Nat) (MU : Int) (MT : Int)
    (hS : St w H [] F) (hm : (z5.m K MU MT).wp kr kp)
    (hret : ∀ (MX : Int) (MY : Int) (MZ : Int) (w : World), kr (MX, MY, MZ) → St w H [] F → R (.returned (.agg ⟨[.int .i64 MX, .int .i64 MY, .int .u32 MZ]⟩)) w) :
    Calls Tryd.prog 51 ⟨[.int .i64 MU, .int .i64 MT]⟩ w R := by
 refine enter Tryd.func51 rfl Tryd.ntmps51 rfl hS fun a w hS => ?_
 have hM := hm; clear hm
 rw [z5.m] at hM
 refine qm <| QF ([.int .i64 (0 : Int), .int .i64 (0 : Int), .int .u32 (0 : Int)]) hS Tryd.zeroValue77 rfl rfl fun w M0 M4 M6 hS => qA <| qm <| sM hS rfl fun hS => sA hS rfl fun hS => sA hS rfl fun hS => qA <| zm (fun a w => ∃ (MR : Int) (MS : Int), Ss 29 [] [(0, .int .i64 MU), (1, .int .i64 MT), (4, qL M0 0), (5, .int .i64 MR), (6, .int .i64 MS)] H [M4] F a w ∧ (z5.j2 K MU MT MR MS).wp kr kp) (fun Nh M9 => ?_) ?_
 ·refine xS ?_
  refine zv (fun M5 a w => ∃ (MW : Int) (MV : Int), Ss 29 [] [(0, .int .i64 MU), (1, .int .i64 MT), (4, qL M0 0), (5, .int .i64 MW), (6, .int .i64 MV)] H [M4] F a w ∧ (z5.l1 K MU MT M5 MW MV).wp kr kp) K ?_ ?_ ?_
  ·exact ⟨(0 : Int), MU, hS.to [0] (by kernel_rfl) ⟨rfl, rfl, rfl, rfl, rfl, trivial⟩, hM⟩
  ·intro a w hI; obtain ⟨_, _, _, hM⟩ := hI; exact zt hM
  ·intro M5 a w hI Ng M8
   obtain ⟨MW, MV, hS, hM⟩ := hI
   rw [z5.l1] at hM
   refine wp_seq <| qm <| sM hS rfl fun hS => sM hS rfl fun hS => ?_
   obtain ⟨Nb, hM⟩ := qK hM
   refine sO hS (shl rfl rfl Nb) rfl fun hS => sB hS rfl fun hS => qA <| qF hS rfl hM (fun Na hM => ?_) (fun Na hM => ?_)
   ·refine wp_skip ?_
    refine qe <| xS <| qm <| sM hS rfl fun hS => sO hS (shr rfl rfl rfl) rfl fun hS => zG (v := Value.int .i64) (x0 := (xa .i64 MV (1 : Int))) hS (xD rfl) rfl fun M3 a w hz hS => ?_
    have hM := qB hz hM; clear hz
    refine qA <| zP <| sM hS rfl fun hS => sB hS rfl fun hS => zG (v := Value.int .i64) (x0 := (qh (MW + (1 : Int)))) hS (xD rfl) rfl fun Nf a w hz hS => ?_
    have hM := qB hz hM; clear hz
    refine zn <| zy (qe ?_)
    exact M8 _ _ ⟨Nf, M3, hS.to [0] (by kernel_rfl) ⟨rfl, rfl, rfl, rfl, rfl, trivial⟩, hM⟩
   ·refine wp_exit ?_
    refine qE (qE (zd (qe ?_)))
    exact M9 _ _ ⟨MW, MV, hS.to [0] (by kernel_rfl) ⟨rfl, rfl, rfl, rfl, rfl, trivial⟩, hM⟩
 ·intro a w hI
  obtain ⟨MR, MS, hS, hM⟩ := hI
  rw [z5.j2] at hM
  refine wp_seq ?_
  obtain ⟨Nc, hM⟩ := qK hM
  obtain ⟨Nd, hM⟩ := qK hM
  refine za (vals := [some (.int .i64 MR), some (.int .i64 MT), some (.int .i64 (z7 .i64 MR MT)), some (.int .i64 MS), some (.int .i64 (qh ((z7 .i64 MR MT) + MS))), some (.int .i64 MR), some (.int .i64 MU), some (.int .i64 MS), some (.int .i64 MR), some (.int .i64 (z7 .i64 MS MR)), some (.int .i64 (qh (MU - (z7 .i64 MS MR)))), some (.int .u32 (wr .u32 (qh (MU - (z7 .i64 MS MR))))), some (.agg ⟨[.int .i64 (qh ((z7 .i64 MR MT) + MS)), .int .i64 MR, .int .u32 (wr .u32 (qh (MU - (z7 .i64 MS MR))))]⟩), none]) hS xG rfl ?_
  intro l w ho hcl hA hst
  refine jg hA hst ho hcl xx xH 13 [0, 1, 2, 3, 4, 5, 6, 7, 8, 9, 10, 11, 12] rfl rfl rfl rfl rfl (by exact ⟨nM rfl, nM rfl, nQ rfl (by exact qW (shl rfl rfl Nc) rfl), nM rfl, nB rfl, nM rfl, nM rfl, nM rfl, nM rfl, nQ rfl (by exact qW (shl rfl rfl Nd) rfl), nB rfl, nQ rfl (by exact qW (u7 rfl Tryd.runUnderlying3 Tryd.runUnderlying25) rfl), nQ rfl (by exact qW (Xr ([.int .i64 (qh ((z7 .i64 MR MT) + MS)), .int .i64 MR, .int .u32 (wr .u32 (qh (MU - (z7 .i64 MS MR))))]) [(0, 1), (1, 1), (2, 1)] Tryd.zeroValue77 Tryd.runUnderlying77 (by intro w; simp [Tryd.sizeOf25, Tryd.sizeOf3]) rfl rfl) rfl), trivial⟩) fun D l a w ho hcl hav hpre hm hE hk hA hst => ?_
  have hS := (Ss.mk hE hst).env2 (e' := [(4, qL M0 0), (28, .agg ⟨[.int .i64 (qh ((z7 .i64 MR MT) + MS)), .int .i64 MR, .int .u32 (wr .u32 (qh (MU - (z7 .i64 MS MR))))]⟩)]) ⟨rfl, rfl, trivial⟩
  refine qQ rfl <| QU 0 ([.int .i64 (qh ((z7 .i64 MR MT) + MS)), .int .i64 MR, .int .u32 (wr .u32 (qh (MU - (z7 .i64 MS MR))))]) ([.int .i64 (qh ((z7 .i64 MR MT) + MS)), .int .i64 MR, .int .u32 (wr .u32 (qh (MU - (z7 .i64 MS MR))))]) hS rfl rfl M6 rfl rfl Tryd.sizeOf77 (by simp [Value.oneCell']) (Nat.le_of_ble_eq_true rfl) rfl fun w Ni M7 hS => qA ?_
  replace hst := hS.st
  obtain ⟨hcl, hmust, hav2, hA⟩ := XQ (vals' := [some (.int .i64 MR), some (.int .i64 MT), some (.int .i64 (z7 .i64 MR MT)), some (.int .i64 MS), some (.int .i64 (qh ((z7 .i64 MR MT) + MS))), some (.int .i64 MR), some (.int .i64 MU), some (.int .i64 MS), some (.int .i64 MR), some (.int .i64 (z7 .i64 MS MR)), some (.int .i64 (qh (MU - (z7 .i64 MS MR)))), some (.int .u32 (wr .u32 (qh (MU - (z7 .i64 MS MR))))), some (.agg ⟨[.int .i64 (qh ((z7 .i64 MR MT) + MS)), .int .i64 MR, .int .u32 (wr .u32 (qh (MU - (z7 .i64 MS MR))))]⟩), some undef]) 13 [(0, 13), (1, 13), (2, 13), (3, 13), (4, 13), (5, 13), (6, 13), (7, 13), (8, 13), (9, 13), (10, 13), (11, 13), (12, 13)] hA hcl hav hm hpre rfl rfl rfl rfl rfl
  clear hm hav
  refine ym hA hst ho hcl hmust [] rfl rfl rfl trivial fun a w hS => ?_
  replace hS := hS.env2 (e' := [(4, qL M0 0)]) ⟨rfl, trivial⟩
  refine qe <| wp_ret ?_
  exact jk (vs := [.agg ⟨[.int .i64 (qh ((z7 .i64 MR MT) + MS)), .int .i64 MR, .int .u32 (wr .u32 (qh (MU - (z7 .i64 MS MR))))]⟩]) hS rfl (by exact ⟨Kf 0 ([.int .i64 (qh ((z7 .i64 MR MT) + MS)), .int .i64 MR, .int .u32 (wr .u32 (qh (MU - (z7 .i64 MS MR))))]) rfl M7 rfl rfl rfl Tryd.isAgg77 Tryd.sizeOf77, trivial⟩) (hret (qh ((z7 .i64 MR MT) + MS)) MR (wr .u32 (qh (MU - (z7 .i64 MS MR)))) _ (q8 hM) (hS.st.pick [] (by kernel_rfl)))
theorem uw {H : xT} {F : List qk} {w : World} {R : Ending → World → Prop} {kr : (Int × Int × Int) → Prop} {kp : Value → Prop} (hG : Gl H) (K : Nat) (MX : Int)
    (hS : St w H [] F) (hm : (yP.m K MX).wp kr kp)
    (hret : ∀ (MU : Int) (MV : Int) (MW : Int) (w : World), kr (MU, MV, MW) → St w H [] F → R (.returned (.agg ⟨[.int .i64 MU, .int .i64 MV, .int .u32 MW]⟩)) w) :
    Calls Tryd.prog 33 ⟨[.int .i64 MX]⟩ w R := by
 refine enter Tryd.func33 rfl Tryd.ntmps33 rfl hS fun a w hS => ?_
 have hM := hm; clear hm
 rw [yP.m] at hM
 refine qm <| QF ([.int .i64 (0 : Int), .int .i64 (0 : Int), .int .u32 (0 : Int)]) hS Tryd.zeroValue77 rfl rfl fun w M8 M7 MY hS => qA <| wp_seq <| qm <| sM hS rfl fun hS => sB hS rfl fun hS => qA <| qF hS rfl hM (fun M6 hM => ?_) (fun M6 hM => ?_)
 ·refine wp_seq ?_
  refine zP <| sO hS (Xr ([.int .i64 (285 : Int), .int .i64 (0 : Int), .int .u32 (0 : Int)]) [(0, 1), (1, 1), (2, 1)] Tryd.zeroValue77 Tryd.runUnderlying77 (by intro w; simp [Tryd.sizeOf25, Tryd.sizeOf3]) rfl rfl) rfl fun hS => QU 0 ([.int .i64 (285 : Int), .int .i64 (0 : Int), .int .u32 (0 : Int)]) ([.int .i64 (285 : Int), .int .i64 (0 : Int), .int .u32 (0 : Int)]) hS rfl rfl MY rfl rfl Tryd.sizeOf77 (by simp [Value.oneCell']) (Nat.le_of_ble_eq_true rfl) rfl fun w Na M0 hS => qA <| wp_ret <| zl ?_
  exact jk (vs := [.agg ⟨[.int .i64 (285 : Int), .int .i64 (0 : Int), .int .u32 (0 : Int)]⟩]) hS rfl (by exact ⟨Kf 0 ([.int .i64 (285 : Int), .int .i64 (0 : Int), .int .u32 (0 : Int)]) rfl M0 rfl rfl rfl Tryd.isAgg77 Tryd.sizeOf77, trivial⟩) (hret (285 : Int) (0 : Int) (0 : Int) _ (q8 hM) (hS.st.pick [] (by kernel_rfl)))
 ·refine wp_skip ?_
  refine qe <| qm <| sM hS rfl fun hS => sB hS rfl fun hS => qJ hS rfl Tryd.call51 (ux hG K (qh (MX - (3 : Int))) (2 : Int) (hS.st.part 0 [0] (by kernel_rfl)) (qt hM) (fun MR MS MT w hM  hst => qz hS.ev hst.appF rfl fun hS => ?_))
  replace hS : Ss _ _ _ H [M7] F _ _ := hS
  refine QF ([.int .i64 (0 : Int), .int .i64 (0 : Int), .int .u32 (0 : Int)]) hS Tryd.zeroValue77 rfl rfl fun w M9 Nb M3 hS => QU 0 ([.int .i64 MR, .int .i64 MS, .int .u32 MT]) ([.int .i64 MR, .int .i64 MS, .int .u32 MT]) hS rfl rfl M3 rfl rfl Tryd.sizeOf77 (by simp [Value.oneCell']) (Nat.le_of_ble_eq_true rfl) rfl fun w Nc MZ hS => qA <| qm <| sO hS (xv rfl Tryd.runUnderlying77 rfl Tryd.sizeOf3 rfl) rfl fun hS => sO hS (x5 0 rfl MZ rfl rfl Tryd.isAgg3) rfl fun hS => sB hS rfl fun hS => sO hS (xv rfl Tryd.runUnderlying77 rfl Tryd.sizeOf3 rfl) rfl fun hS => J5 0 ([.int .i64 (qh (MR + (257 : Int))), .int .i64 MS, .int .u32 MT]) hS rfl rfl MZ rfl rfl rfl rfl Tryd.sizeOf3 fun w Nd M4 hS => qA <| qm <| sO hS (uS 0 rfl M4 rfl ([.int .i64 (qh (MR + (257 : Int))), .int .i64 MS, .int .u32 MT]) rfl rfl Tryd.isAgg77 Tryd.sizeOf77) rfl fun hS => QU 1 ([.int .i64 (qh (MR + (257 : Int))), .int .i64 MS, .int .u32 MT]) ([.int .i64 (qh (MR + (257 : Int))), .int .i64 MS, .int .u32 MT]) hS rfl rfl MY rfl rfl Tryd.sizeOf77 (by simp [Value.oneCell']) (Nat.le_of_ble_eq_true rfl) rfl fun w Nf M5 hS => qA <| wp_ret ?_
  exact jk (vs := [.agg ⟨[.int .i64 (qh (MR + (257 : Int))), .int .i64 MS, .int .u32 MT]⟩]) hS rfl (by exact ⟨Kf 1 ([.int .i64 (qh (MR + (257 : Int))), .int .i64 MS, .int .u32 MT]) rfl M5 rfl rfl rfl Tryd.isAgg77 Tryd.sizeOf77, trivial⟩) (hret (qh (MR + (257 : Int))) MS MT _ (q8 hM) (hS.st.pick [] (by kernel_rfl)))
theorem vM {H : xT} {F : List qk} {w : World} {R : Ending → World → Prop} {kr : (Int × (List Int)) → Prop} {kp : Value → Prop} (hG : Gl H) (K : Nat) (MR : qp) (Nz : qv) (MS : xV) (MT : Nat) (Nh : qk) (Nf : Option Addr) (Ng : Nat) (Ni : qk) (MV : Option Addr) (MX : Nat) (MZ : qk) (MW : Option Addr) (MY : Nat) (M0 : qk) (M5 : Option Addr) (M7 : Nat) (M3 : qk) (M6 : Option Addr) (M8 : Nat) (M4 : qk) (NA : xM Nh MT ([.int .i64 MR.Writer_.place_.at_, .slice Nf MR.Writer_.bytes_.length Ng, .slice MV MR.literals_.lengths_.length MX, .slice MW MR.literals_.codes_.length MY, .slice M5 MR.distances_.lengths_.length M7, .slice M6 MR.distances_.codes_.length M8]) 70) (NC : xj 5 (ci .u8) 1 Nf MR.Writer_.bytes_ Ng Ni) (Nj : xj 3 (ci .i64) 1 MV MR.literals_.lengths_ MX MZ) (Nk : xj 3 (ci .i64) 1 MW MR.literals_.codes_ MY M0) (Nl : xj 3 (ci .i64) 1 M5 MR.distances_.lengths_ M7 M3) (Nm : xj 3 (ci .i64) 1 M6 MR.distances_.codes_ M8 M4)
    (hS : St w H [Nh, Ni, MZ, M0, M3, M4] F) (hm : (yf.m K MR Nz MS).wp kr kp)
    (hret : ∀ (Na : Int) (Np : Option Addr) (Nq : Nat) (MU : (List Int)) (Nx : qk) (Ny : qk) (w : World), kr (Na, MU) → (xj 5 (ci .u8) 1 Np MU Nq Nx) → (xM Ny MT ([.int .i64 Na, .slice Np MU.length Nq, .slice MV MR.literals_.lengths_.length MX, .slice MW MR.literals_.codes_.length MY, .slice M5 MR.distances_.lengths_.length M7, .slice M6 MR.distances_.codes_.length M8]) 70) → St w H [Ny, Nx, MZ, M0, M3, M4] F → R (.returned (.tuple ⟨[]⟩)) w) :
    Calls Tryd.prog 50 ⟨[qL MT 0, .agg ⟨[.slice MV MR.literals_.lengths_.length MX, .slice MW MR.literals_.codes_.length MY]⟩, .agg ⟨[.int .i64 MS.symbol_, .int .i64 MS.bits_, .int .u32 MS.more_]⟩]⟩ w R := by
 refine enter Tryd.func50 rfl Tryd.ntmps50 rfl hS fun a w hS => ?_
 have hM := hm; clear hm
 rw [yf.m] at hM
 refine qm <| bx ([.slice MV MR.literals_.lengths_.length MX, .slice MW MR.literals_.codes_.length MY]) hS rfl rfl rfl fun w NM Nr NB hS => bx ([.int .i64 MS.symbol_, .int .i64 MS.bits_, .int .u32 MS.more_]) hS rfl rfl rfl fun w Nb Ns M9 hS => qA <| qm <| sM hS rfl fun hS => sO hS (uS 1 rfl NB rfl ([.slice MV MR.literals_.lengths_.length MX, .slice MW MR.literals_.codes_.length MY]) rfl rfl Tryd.isAgg68 Tryd.sizeOf68) rfl fun hS => sO hS (xv rfl Tryd.runUnderlying77 rfl Tryd.sizeOf3 rfl) rfl fun hS => sO hS (x5 0 rfl M9 rfl rfl Tryd.isAgg3) rfl fun hS => qJ hS rfl Tryd.call39 (yq hG K MR MR.literals_ MS.symbol_ MT Nh Nf Ng Ni MV MX MZ MW MY M0 M5 M7 M3 M6 M8 M4 NA NC Nj Nk Nl Nm (hS.st.part 6 [2, 3, 4, 5, 6, 7, 0, 1] (by kernel_rfl)) (qt hM) (fun Nn ND NF Nc Nt Nu w hM NH NI hst => qz hS.ev hst.appF rfl fun hS => ?_))
 replace hS : Ss _ _ _ H [Nu, Nt, MZ, M0, M3, M4, Ns, Nr] F _ _ := hS
 refine qA <| za (vals := [some (qL MT 0), some (qL MT 0), some (qL MT 0), some (qL Nb 2), some (.int .u32 MS.more_), some (qL Nb 1), some (.int .i64 MS.bits_), none]) hS xG rfl ?_
 intro l w ho hcl hA hst
 refine jg hA hst ho hcl xx xH 7 [0, 1, 2, 3, 4, 5, 6] rfl rfl rfl rfl rfl (by exact ⟨nM rfl, nQ rfl (by exact qW (yy rfl) rfl), nQ rfl (by exact qW (xv rfl Tryd.runUnderlying70 rfl Tryd.sizeOf65 rfl) rfl), nQ rfl (by exact qW (xv rfl Tryd.runUnderlying77 rfl Tryd.sizeOf25 rfl) rfl), nQ rfl (by exact qW (x5 6 rfl M9 rfl rfl Tryd.isAgg25) rfl), nQ rfl (by exact qW (xv rfl Tryd.runUnderlying77 rfl Tryd.sizeOf3 rfl) rfl), nQ rfl (by exact qW (x5 6 rfl M9 rfl rfl Tryd.isAgg3) rfl), trivial⟩) fun D l a w ho hcl hav hpre hm hE hk hA hst => ?_
 have hS := (Ss.mk hE hst).env2 (e' := [(13, qL MT 0), (15, .int .u32 MS.more_), (17, .int .i64 MS.bits_)]) ⟨rfl, rfl, rfl, trivial⟩
 refine qQ rfl <| qJ hS rfl Tryd.call30 (zj hG K (qp.mk (qR.mk (qr.mk Nn) Nc) MR.literals_ MR.distances_) MS.more_ MS.bits_ MT Nu ND NF Nt MV MX MZ MW MY M0 M5 M7 M3 M6 M8 M4 NI NH Nj Nk Nl Nm (hS.st.part 6 [0, 1, 2, 3, 4, 5, 6, 7] (by kernel_rfl)) (qt hM) (fun NL No NE NG Nd Nv Nw w hM NJ NK hst => qz hS.ev hst.appF rfl fun hS => ?_))
 replace hS : Ss _ _ _ H [Nw, Nv, MZ, M0, M3, M4, Ns, Nr] F _ _ := hS
 refine qA ?_
 replace hst := hS.st
 obtain ⟨hcl, hmust, hav2, hA⟩ := dn (vals' := [some (qL MT 0), some (qL MT 0), some (qL MT 0), some (qL Nb 2), some (.int .u32 MS.more_), some (qL Nb 1), some (.int .i64 MS.bits_), some (.int .i64 NL)]) 7 [(2, 7), (4, 7), (6, 7), (1, 2), (3, 4), (5, 6), (0, 1)] hA hcl hav hm hpre hk rfl rfl rfl rfl rfl rfl rfl
 clear hm hav
 refine ym hA hst ho hcl hmust [] rfl rfl rfl trivial fun a w hS => ?_
 replace hS := hS.env2 (e' := []) trivial
 exact jR (rs := []) hS rfl rfl (hret No NE NG Nd Nv Nw _ (q8 hM) NJ NK (hS.st.pick [0, 1, 2, 3, 4, 5] (by kernel_rfl)))
theorem vK {H : xT} {F : List qk} {w : World} {R : Ending → World → Prop} {kr : (Int × Int × Int) → Prop} {kp : Value → Prop} (hG : Gl H) (K : Nat) (MX : Int)
    (hS : St w H [] F) (hm : (yz.m K MX).wp kr kp)
    (hret : ∀ (MU : Int) (MV : Int) (MW : Int) (w : World), kr (MU, MV, MW) → St w H [] F → R (.returned (.agg ⟨[.int .i64 MU, .int .i64 MV, .int .u32 MW]⟩)) w) :
    Calls Tryd.prog 34 ⟨[.int .i64 MX]⟩ w R := by
 refine enter Tryd.func34 rfl Tryd.ntmps34 rfl hS fun a w hS => ?_
 have hM := hm; clear hm
 rw [yz.m] at hM
 refine qm <| QF ([.int .i64 (0 : Int), .int .i64 (0 : Int), .int .u32 (0 : Int)]) hS Tryd.zeroValue77 rfl rfl fun w M3 M0 MY hS => qA <| qm <| sM hS rfl fun hS => sB hS rfl fun hS => qJ hS rfl Tryd.call51 (ux hG K (qh (MX - (1 : Int))) (1 : Int) (hS.st.part 0 [0] (by kernel_rfl)) (qt hM) (fun MR MS MT w hM  hst => qz hS.ev hst.appF rfl fun hS => ?_))
 replace hS : Ss _ _ _ H [M0] F _ _ := hS
 refine QU 0 ([.int .i64 MR, .int .i64 MS, .int .u32 MT]) ([.int .i64 MR, .int .i64 MS, .int .u32 MT]) hS rfl rfl MY rfl rfl Tryd.sizeOf77 (by simp [Value.oneCell']) (Nat.le_of_ble_eq_true rfl) rfl fun w M4 MZ hS => qA <| wp_ret ?_
 exact jk (vs := [.agg ⟨[.int .i64 MR, .int .i64 MS, .int .u32 MT]⟩]) hS rfl (by exact ⟨Kf 0 ([.int .i64 MR, .int .i64 MS, .int .u32 MT]) rfl MZ rfl rfl rfl Tryd.isAgg77 Tryd.sizeOf77, trivial⟩) (hret MR MS MT _ (q8 hM) (hS.st.pick [] (by kernel_rfl)))
theorem vp {H : xT} {F : List qk} {w : World} {R : Ending → World → Prop} {kr : (Int × (List Int)) → Prop} {kp : Value → Prop} (hG : Gl H) (K : Nat) (MR : qp) (NE : qv) (MS : Int) (MV : Nat) (No : qk) (Nm : Option Addr) (Nn : Nat) (Np : qk) (M8 : Option Addr) (Nb : Nat) (M4 : qk) (M9 : Option Addr) (Nc : Nat) (M5 : qk) (M0 : Option Addr) (M3 : Nat) (M6 : qk) (MW : Option Addr) (MY : Nat) (M7 : qk) (NF : xM No MV ([.int .i64 MR.Writer_.place_.at_, .slice Nm MR.Writer_.bytes_.length Nn, .slice M8 MR.literals_.lengths_.length Nb, .slice M9 MR.literals_.codes_.length Nc, .slice M0 MR.distances_.lengths_.length M3, .slice MW MR.distances_.codes_.length MY]) 70) (NH : xj 5 (ci .u8) 1 Nm MR.Writer_.bytes_ Nn Np) (NI : xj 3 (ci .i64) 1 M8 MR.literals_.lengths_ Nb M4) (NJ : xj 3 (ci .i64) 1 M9 MR.literals_.codes_ Nc M5) (Nh : xj 3 (ci .i64) 1 M0 MR.distances_.lengths_ M3 M6) (Ni : xj 3 (ci .i64) 1 MW MR.distances_.codes_ MY M7)
    (hS : St w H [No, Np, M4, M5, M6, M7] F) (hm : (z1.m K MR NE MS).wp kr kp)
    (hret : ∀ (Nj : Int) (Nw : Option Addr) (Nx : Nat) (MZ : (List Int)) (NB : qk) (NC : qk) (w : World), kr (Nj, MZ) → (xj 5 (ci .u8) 1 Nw MZ Nx NB) → (xM NC MV ([.int .i64 Nj, .slice Nw MZ.length Nx, .slice M8 MR.literals_.lengths_.length Nb, .slice M9 MR.literals_.codes_.length Nc, .slice M0 MR.distances_.lengths_.length M3, .slice MW MR.distances_.codes_.length MY]) 70) → St w H [NC, NB, M4, M5, M6, M7] F → R (.returned (.tuple ⟨[]⟩)) w) :
    Calls Tryd.prog 39 ⟨[qL MV 0, .agg ⟨[.slice M0 MR.distances_.lengths_.length M3, .slice MW MR.distances_.codes_.length MY]⟩, .int .i64 MS]⟩ w R := by
 refine enter Tryd.func39 rfl Tryd.ntmps39 rfl hS fun a w hS => ?_
 have hM := hm; clear hm
 rw [z1.m] at hM
 refine qm <| bx ([.slice M0 MR.distances_.lengths_.length M3, .slice MW MR.distances_.codes_.length MY]) hS rfl rfl rfl fun w Nk Ny Nq hS => qA <| qm <| sO hS (xv rfl Tryd.runUnderlying68 rfl Tryd.sizeOf66 rfl) rfl fun hS => sO hS (x5 0 rfl Nq rfl rfl Tryd.isAgg66) rfl fun hS => sM hS rfl fun hS => ?_
 obtain ⟨Nt, hM⟩ := qK hM
 refine sO hS (yv rfl rfl Tryd.runUnderlying66 Tryd.sizeOf3 (Nh.rd (i := 5) rfl) (fun _ => rfl) rfl Nt) rfl fun hS => sO hS (yG rfl (Nh.rd (i := 5) rfl) (fun _ => rfl) Nt rfl Tryd.isAgg3) rfl fun hS => sB hS rfl fun hS => zG (v := Value.int .i64) (x0 := (qh ((rd MR.distances_.lengths_ MS) - (1 : Int)))) hS (xD rfl) rfl fun NQ a w hz hS => ?_
 have hM := qB hz hM; clear hz
 refine qA <| xS <| zv (fun ND a w => ∃ (MX : Int) (Na : Option Addr) (Nd : Nat) (MT : (List Int)) (Nf : qk) (Ng : qk) (MU : Int), Ss 30 [] [(0, qL MV 0), (2, .int .i64 MS), (4, qL Nk 0), (6, .int .i64 MU)] H [Ng, Nf, M4, M5, M6, M7, Ny] F a w ∧ (xj 5 (ci .u8) 1 Na MT Nd Nf) ∧ (xM Ng MV ([.int .i64 MX, .slice Na MT.length Nd, .slice M8 MR.literals_.lengths_.length Nb, .slice M9 MR.literals_.codes_.length Nc, .slice M0 MR.distances_.lengths_.length M3, .slice MW MR.distances_.codes_.length MY]) 70) ∧ (z1.l1 K MR MS ND MX MT MU).wp kr kp) K ?_ ?_ ?_
 ·exact ⟨MR.Writer_.place_.at_, Nm, Nn, MR.Writer_.bytes_, Np, No, NQ, hS.to [1, 2, 3, 4, 5, 6, 0] (by kernel_rfl) ⟨rfl, rfl, rfl, rfl, trivial⟩, NH, NF, hM⟩
 ·intro a w hI; obtain ⟨_, _, _, _, _, _, _, _, _, _, hM⟩ := hI; exact zt hM
 ·intro ND a w hI NT NG
  obtain ⟨MX, Na, Nd, MT, Nf, Ng, MU, hS, Ns, Nr, hM⟩ := hI
  rw [z1.l1] at hM
  refine wp_seq <| qm <| sM hS rfl fun hS => sB hS rfl fun hS => qA <| qF hS rfl hM (fun NK hM => ?_) (fun NK hM => ?_)
  ·refine wp_skip ?_
   refine qe <| wp_seq <| xS ?_
   obtain ⟨Nu, hM⟩ := qK hM
   obtain ⟨NL, hM⟩ := qK hM
   refine za (vals := [some (qL MV 0), some (qL MV 0), some (qL MV 0), some (qL Nk 1), some (.slice MW MR.distances_.codes_.length MY), some (.int .i64 MS), some (xI MW (Int.toNat MS * 1)), some (.int .i64 (rd MR.distances_.codes_ MS)), some (.int .i64 MU), some (.int .i64 (xa .i64 (rd MR.distances_.codes_ MS) MU)), some (.int .i64 (xE .i64 (xa .i64 (rd MR.distances_.codes_ MS) MU) (1 : Int))), some (.int .u32 (wr .u32 (xE .i64 (xa .i64 (rd MR.distances_.codes_ MS) MU) (1 : Int)))), none]) hS xG rfl ?_
   intro l w ho hcl hA hst
   refine jg hA hst ho hcl xx xH 12 [0, 1, 2, 3, 4, 5, 6, 7, 8, 9, 10, 11] rfl rfl rfl rfl rfl (by exact ⟨nM rfl, nQ rfl (by exact qW (yy rfl) rfl), nQ rfl (by exact qW (xv rfl Tryd.runUnderlying70 rfl Tryd.sizeOf65 rfl) rfl), nQ rfl (by exact qW (xv rfl Tryd.runUnderlying68 rfl Tryd.sizeOf66 rfl) rfl), nQ rfl (by exact qW (x5 6 rfl Nq rfl rfl Tryd.isAgg66) rfl), nM rfl, nQ rfl (by exact qW (yv rfl rfl Tryd.runUnderlying66 Tryd.sizeOf3 (Ni.rd (i := 5) rfl) (fun _ => rfl) rfl Nu) rfl), nQ rfl (by exact qW (yG rfl (Ni.rd (i := 5) rfl) (fun _ => rfl) Nu rfl Tryd.isAgg3) rfl), nM rfl, nQ rfl (by exact qW (shr rfl rfl NL) rfl), nB rfl, nQ rfl (by exact qW (u7 rfl Tryd.runUnderlying3 Tryd.runUnderlying25) rfl), trivial⟩) fun D l a w ho hcl hav hpre hm hE hk hA hst => ?_
   have hS := (Ss.mk hE hst).env2 (e' := [(19, qL MV 0), (28, .int .u32 (wr .u32 (xE .i64 (xa .i64 (rd MR.distances_.codes_ MS) MU) (1 : Int))))]) ⟨rfl, rfl, trivial⟩
   refine qQ rfl <| qJ hS rfl Tryd.call30 (zj hG K (qp.mk (qR.mk (qr.mk MX) MT) MR.literals_ MR.distances_) (wr .u32 (xE .i64 (xa .i64 (rd MR.distances_.codes_ MS) MU) (1 : Int))) (1 : Int) MV Ng Na Nd Nf M8 Nb M4 M9 Nc M5 M0 M3 M6 MW MY M7 Nr Ns NI NJ Nh Ni (hS.st.part 6 [0, 1, 2, 3, 4, 5, 6] (by kernel_rfl)) (qt hM) (fun NS Nv NM NN Nl Nz NA w hM NO NP hst => qz hS.ev hst.appF rfl fun hS => ?_))
   replace hS : Ss _ _ _ H [NA, Nz, M4, M5, M6, M7, Ny] F _ _ := hS
   refine qA ?_
   replace hst := hS.st
   obtain ⟨hcl, hmust, hav2, hA⟩ := dn (vals' := [some (qL MV 0), some (qL MV 0), some (qL MV 0), some (qL Nk 1), some (.slice MW MR.distances_.codes_.length MY), some (.int .i64 MS), some (xI MW (Int.toNat MS * 1)), some (.int .i64 (rd MR.distances_.codes_ MS)), some (.int .i64 MU), some (.int .i64 (xa .i64 (rd MR.distances_.codes_ MS) MU)), some (.int .i64 (xE .i64 (xa .i64 (rd MR.distances_.codes_ MS) MU) (1 : Int))), some (.int .u32 (wr .u32 (xE .i64 (xa .i64 (rd MR.distances_.codes_ MS) MU) (1 : Int)))), some (.int .i64 NS)]) 12 [(2, 12), (11, 12), (1, 2), (10, 11), (0, 1), (9, 10), (7, 9), (8, 9), (6, 7), (4, 6), (5, 6), (3, 4)] hA hcl hav hm hpre hk rfl rfl rfl rfl rfl rfl rfl
   clear hm hav
   refine ym hA hst ho hcl hmust [] rfl rfl rfl trivial fun a w hS => ?_
   replace hS := hS.env2 (e' := [(0, qL MV 0), (2, .int .i64 MS), (4, qL Nk 0), (6, .int .i64 MU)]) ⟨rfl, rfl, rfl, rfl, trivial⟩
   refine zy (qe ?_)
   refine zP <| sM hS rfl fun hS => sB hS rfl fun hS => zG (v := Value.int .i64) (x0 := (qh (MU - (1 : Int)))) hS (xD rfl) rfl fun NR a w hz hS => ?_
   have hM := qB hz hM; clear hz
   refine zn <| qe ?_
   exact NG _ _ ⟨Nv, NM, NN, Nl, Nz, NA, NR, hS.to [0, 1, 2, 3, 4, 5, 6] (by kernel_rfl) ⟨rfl, rfl, rfl, rfl, trivial⟩, NO, NP, hM⟩
  ·refine wp_exit ?_
   refine qE (qE (zd ?_))
   exact jR (rs := []) hS rfl rfl (hret MX Na Nd MT Nf Ng _ (q8 hM) Ns Nr (hS.st.pick [0, 1, 2, 3, 4, 5] (by kernel_rfl)))
theorem vN {H : xT} {F : List qk} {w : World} {R : Ending → World → Prop} {kr : (Int × (List Int)) → Prop} {kp : Value → Prop} (hG : Gl H) (K : Nat) (MR : qp) (Nz : qv) (MS : xV) (MT : Nat) (Nh : qk) (Nf : Option Addr) (Ng : Nat) (Ni : qk) (M5 : Option Addr) (M7 : Nat) (MZ : qk) (M6 : Option Addr) (M8 : Nat) (M0 : qk) (MV : Option Addr) (MX : Nat) (M3 : qk) (MW : Option Addr) (MY : Nat) (M4 : qk) (NA : xM Nh MT ([.int .i64 MR.Writer_.place_.at_, .slice Nf MR.Writer_.bytes_.length Ng, .slice M5 MR.literals_.lengths_.length M7, .slice M6 MR.literals_.codes_.length M8, .slice MV MR.distances_.lengths_.length MX, .slice MW MR.distances_.codes_.length MY]) 70) (NC : xj 5 (ci .u8) 1 Nf MR.Writer_.bytes_ Ng Ni) (Nj : xj 3 (ci .i64) 1 M5 MR.literals_.lengths_ M7 MZ) (Nk : xj 3 (ci .i64) 1 M6 MR.literals_.codes_ M8 M0) (Nl : xj 3 (ci .i64) 1 MV MR.distances_.lengths_ MX M3) (Nm : xj 3 (ci .i64) 1 MW MR.distances_.codes_ MY M4)
    (hS : St w H [Nh, Ni, MZ, M0, M3, M4] F) (hm : (yg.m K MR Nz MS).wp kr kp)
    (hret : ∀ (Na : Int) (Np : Option Addr) (Nq : Nat) (MU : (List Int)) (Nx : qk) (Ny : qk) (w : World), kr (Na, MU) → (xj 5 (ci .u8) 1 Np MU Nq Nx) → (xM Ny MT ([.int .i64 Na, .slice Np MU.length Nq, .slice M5 MR.literals_.lengths_.length M7, .slice M6 MR.literals_.codes_.length M8, .slice MV MR.distances_.lengths_.length MX, .slice MW MR.distances_.codes_.length MY]) 70) → St w H [Ny, Nx, MZ, M0, M3, M4] F → R (.returned (.tuple ⟨[]⟩)) w) :
    Calls Tryd.prog 50 ⟨[qL MT 0, .agg ⟨[.slice MV MR.distances_.lengths_.length MX, .slice MW MR.distances_.codes_.length MY]⟩, .agg ⟨[.int .i64 MS.symbol_, .int .i64 MS.bits_, .int .u32 MS.more_]⟩]⟩ w R := by
 refine enter Tryd.func50 rfl Tryd.ntmps50 rfl hS fun a w hS => ?_
 have hM := hm; clear hm
 rw [yg.m] at hM
 refine qm <| bx ([.slice MV MR.distances_.lengths_.length MX, .slice MW MR.distances_.codes_.length MY]) hS rfl rfl rfl fun w NM Nr NB hS => bx ([.int .i64 MS.symbol_, .int .i64 MS.bits_, .int .u32 MS.more_]) hS rfl rfl rfl fun w Nb Ns M9 hS => qA <| qm <| sM hS rfl fun hS => sO hS (uS 1 rfl NB rfl ([.slice MV MR.distances_.lengths_.length MX, .slice MW MR.distances_.codes_.length MY]) rfl rfl Tryd.isAgg68 Tryd.sizeOf68) rfl fun hS => sO hS (xv rfl Tryd.runUnderlying77 rfl Tryd.sizeOf3 rfl) rfl fun hS => sO hS (x5 0 rfl M9 rfl rfl Tryd.isAgg3) rfl fun hS => qJ hS rfl Tryd.call39 (vp hG K MR MR.distances_ MS.symbol_ MT Nh Nf Ng Ni M5 M7 MZ M6 M8 M0 MV MX M3 MW MY M4 NA NC Nj Nk Nl Nm (hS.st.part 6 [2, 3, 4, 5, 6, 7, 0, 1] (by kernel_rfl)) (qt hM) (fun Nn ND NF Nc Nt Nu w hM NH NI hst => qz hS.ev hst.appF rfl fun hS => ?_))
 replace hS : Ss _ _ _ H [Nu, Nt, MZ, M0, M3, M4, Ns, Nr] F _ _ := hS
 refine qA <| za (vals := [some (qL MT 0), some (qL MT 0), some (qL MT 0), some (qL Nb 2), some (.int .u32 MS.more_), some (qL Nb 1), some (.int .i64 MS.bits_), none]) hS xG rfl ?_
 intro l w ho hcl hA hst
 refine jg hA hst ho hcl xx xH 7 [0, 1, 2, 3, 4, 5, 6] rfl rfl rfl rfl rfl (by exact ⟨nM rfl, nQ rfl (by exact qW (yy rfl) rfl), nQ rfl (by exact qW (xv rfl Tryd.runUnderlying70 rfl Tryd.sizeOf65 rfl) rfl), nQ rfl (by exact qW (xv rfl Tryd.runUnderlying77 rfl Tryd.sizeOf25 rfl) rfl), nQ rfl (by exact qW (x5 6 rfl M9 rfl rfl Tryd.isAgg25) rfl), nQ rfl (by exact qW (xv rfl Tryd.runUnderlying77 rfl Tryd.sizeOf3 rfl) rfl), nQ rfl (by exact qW (x5 6 rfl M9 rfl rfl Tryd.isAgg3) rfl), trivial⟩) fun D l a w ho hcl hav hpre hm hE hk hA hst => ?_
 have hS := (Ss.mk hE hst).env2 (e' := [(13, qL MT 0), (15, .int .u32 MS.more_), (17, .int .i64 MS.bits_)]) ⟨rfl, rfl, rfl, trivial⟩
 refine qQ rfl <| qJ hS rfl Tryd.call30 (zj hG K (qp.mk (qR.mk (qr.mk Nn) Nc) MR.literals_ MR.distances_) MS.more_ MS.bits_ MT Nu ND NF Nt M5 M7 MZ M6 M8 M0 MV MX M3 MW MY M4 NI NH Nj Nk Nl Nm (hS.st.part 6 [0, 1, 2, 3, 4, 5, 6, 7] (by kernel_rfl)) (qt hM) (fun NL No NE NG Nd Nv Nw w hM NJ NK hst => qz hS.ev hst.appF rfl fun hS => ?_))
 replace hS : Ss _ _ _ H [Nw, Nv, MZ, M0, M3, M4, Ns, Nr] F _ _ := hS
 refine qA ?_
 replace hst := hS.st
 obtain ⟨hcl, hmust, hav2, hA⟩ := dn (vals' := [some (qL MT 0), some (qL MT 0), some (qL MT 0), some (qL Nb 2), some (.int .u32 MS.more_), some (qL Nb 1), some (.int .i64 MS.bits_), some (.int .i64 NL)]) 7 [(2, 7), (4, 7), (6, 7), (1, 2), (3, 4), (5, 6), (0, 1)] hA hcl hav hm hpre hk rfl rfl rfl rfl rfl rfl rfl
 clear hm hav
 refine ym hA hst ho hcl hmust [] rfl rfl rfl trivial fun a w hS => ?_
 replace hS := hS.env2 (e' := []) trivial
 exact jR (rs := []) hS rfl rfl (hret No NE NG Nd Nv Nw _ (q8 hM) NJ NK (hS.st.pick [0, 1, 2, 3, 4, 5] (by kernel_rfl)))
end Go.TrydS

