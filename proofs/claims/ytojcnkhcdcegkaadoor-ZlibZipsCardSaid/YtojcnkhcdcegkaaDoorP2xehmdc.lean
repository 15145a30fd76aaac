/- Printed by a program of mine: each Go function answers what its model answers; conditions: what each theorem asks of memory. -/
import Derived.Test.YtojcnkhcdcegkaaDoorP1xacgmi
set_option linter.unusedVariables false
set_option linter.unusedSimpArgs false
set_option maxRecDepth 100000
namespace Go.TrydS
open Go Go.Sl Go.Mo Go.Proofs
attribute [local irreducible] qN.wp
theorem uI {H : xR} {F : List qk} {w : World} {R : Ending → World → Prop} {kr : ((List UInt8) × Int × Int) → Prop} {kp : Value → Prop} (hG : Gl H) (K : Nat) (s3 : List UInt8) (limit4 : Int)
    (hS : St w H [] F) (hm : (jr.m K s3 limit4).wp kr kp)
    (hret : ∀ (L3 : List UInt8) (L4 : Int) (L5 : Int) (w : World), kr (L3, L4, L5) → St w H [] F → R (.returned (.tuple ⟨[xf L3, .int .i64 L4, .int .i64 L5]⟩)) w) :
    Calls Tryd.prog 11 ⟨[xf s3, .int .i64 limit4]⟩ w R := by
 refine enter Tryd.func11 rfl Tryd.ntmps11 rfl hS fun a w hS => ?_
 have hM := hm; clear hm
 rw [jr.m] at hM
 refine qm <| sA hS rfl fun hS => sA hS rfl fun hS => sA hS rfl fun hS => qB <| wp_seq <| qm <| sM hS rfl fun hS => sB hS rfl fun hS => sM hS rfl fun hS => yS 2 false 15 (b := (decide (limit4 < (0 : Int)))) (r := (decide (limit4 > (1073741824 : Int)))) hS rfl rfl rfl rfl rfl rfl rfl (fun hb a w hS K hK => ?_) rfl fun a w hS => ?_
 ·refine z2 hS rfl rfl rfl hb (mv rfl) rfl fun a w hS => ?_
  refine z2 hS rfl rfl rfl hb (jk rfl rfl rfl) rfl fun a w hS => ?_
  exact zp (hK _ _ (hS.up 2 rfl rfl))
 refine qB <| qG hS rfl hM (fun hb5 hM => ?_) (fun hb5 hM => ?_)
 ·refine wp_seq ?_
  refine zN <| sA hS rfl fun hS => sA hS rfl fun hS => sA hS rfl fun hS => qB <| wp_ret <| zm ?_
  exact zD (rs := [4, 5, 6]) hS rfl rfl (hret ([] : List UInt8) (0 : Int) (1 : Int) _ (q7 hM) (hS.st.pick [] (by kernel_rfl)))
 ·refine wp_skip ?_
  refine qe <| qm <| sA hS rfl fun hS => qB <| qm <| sM hS rfl fun hS => sM hS rfl fun hS => qF hS rfl Tryd.call20 (Vy hG K s3 (hS.st.part 0 [] (by kernel_rfl)) (qs hM) (fun  w hM  hst => qA hS.ev hst.appF rfl fun hS => ?_))
  replace hS : Ss _ _ _ H [] F _ _ := hS
  refine jR hS rfl rfl Tryd.call19 (jF hG K (yc.mk s3 (0 : Int)) (0 : Int) (2 : Int) (hS.st.part 0 [] (by kernel_rfl)) (qs hM) (fun LZ Mj w hM  hst => qA hS.ev hst.appF rfl fun hS => ?_))
  replace hS : Ss _ _ _ H [] F _ _ := hS
  refine sM hS rfl fun hS => sO hS (ex rfl rfl) rfl fun hS => sO hS (ex rfl rfl) rfl fun hS => sA hS rfl fun hS => sA hS rfl fun hS => qB <| wp_seq <| qm <| sM hS rfl fun hS => sB hS rfl fun hS => qB <| qG hS rfl hM (fun Me hM => ?_) (fun Me hM => ?_)
  ·refine wp_seq ?_
   refine zN <| sM hS rfl fun hS => sA hS rfl fun hS => sA hS rfl fun hS => sA hS rfl fun hS => qB <| wp_ret <| zm ?_
   exact zD (rs := [4, 5, 6]) hS rfl rfl (hret ([] : List UInt8) (0 : Int) Mj _ (q7 hM) (hS.st.pick [] (by kernel_rfl)))
  ·refine wp_skip ?_
   refine qe <| wp_seq <| qm <| sM hS rfl fun hS => sO hS (shr rfl rfl rfl) rfl fun hS => sB hS rfl fun hS => sB hS rfl fun hS => sM hS rfl fun hS => yS 3 false 33 (b := ((xD .u64 (z9 .u64 LZ (8 : Int)) (15 : Int)) != (8 : Int))) (r := (decide ((z9 .u64 LZ (12 : Int)) > (7 : Int)))) hS rfl rfl rfl rfl rfl rfl rfl (fun hb a w hS K hK => ?_) rfl fun a w hS => ?_
   ·refine z2 hS rfl rfl rfl hb (mv rfl) rfl fun a w hS => ?_
    refine z2 hS rfl rfl rfl hb (shr rfl rfl rfl) rfl fun a w hS => z2 hS rfl rfl rfl hb (jk rfl rfl rfl) rfl fun a w hS => ?_
    exact zp (hK _ _ (hS.up 3 rfl rfl))
   refine sM hS rfl fun hS => yS 3 false 38 (b := (((xD .u64 (z9 .u64 LZ (8 : Int)) (15 : Int)) != (8 : Int)) || (decide ((z9 .u64 LZ (12 : Int)) > (7 : Int))))) (r := ((yW LZ (31 : Int)) != (0 : Int))) hS rfl rfl rfl rfl rfl rfl rfl (fun hb a w hS K hK => ?_) rfl fun a w hS => ?_
   ·refine z2 hS rfl rfl rfl hb (mv rfl) rfl fun a w hS => ?_
    refine z2 hS rfl rfl rfl hb (rem rfl rfl rfl) rfl fun a w hS => z2 hS rfl rfl rfl hb (jk rfl rfl rfl) rfl fun a w hS => ?_
    exact zp (hK _ _ (hS.up 3 rfl rfl))
   refine sM hS rfl fun hS => yS 3 false 43 (b := ((((xD .u64 (z9 .u64 LZ (8 : Int)) (15 : Int)) != (8 : Int)) || (decide ((z9 .u64 LZ (12 : Int)) > (7 : Int)))) || ((yW LZ (31 : Int)) != (0 : Int)))) (r := ((xD .u64 LZ (32 : Int)) != (0 : Int))) hS rfl rfl rfl rfl rfl rfl rfl (fun hb a w hS K hK => ?_) rfl fun a w hS => ?_
   ·refine z2 hS rfl rfl rfl hb (mv rfl) rfl fun a w hS => ?_
    refine z2 hS rfl rfl rfl hb (jk rfl rfl rfl) rfl fun a w hS => z2 hS rfl rfl rfl hb (jk rfl rfl rfl) rfl fun a w hS => ?_
    exact zp (hK _ _ (hS.up 3 rfl rfl))
   refine qB <| qG hS rfl hM (fun Mf hM => ?_) (fun Mf hM => ?_)
   ·refine wp_seq ?_
    refine zN <| sA hS rfl fun hS => sA hS rfl fun hS => sA hS rfl fun hS => qB <| wp_ret <| zm ?_
    exact zD (rs := [4, 5, 6]) hS rfl rfl (hret ([] : List UInt8) (0 : Int) (3 : Int) _ (q7 hM) (hS.st.pick [] (by kernel_rfl)))
   ·refine wp_skip ?_
    refine qe <| qm <| sM hS rfl fun hS => ?_
    obtain ⟨Mg, hM⟩ := qK hM
    refine sO hS (Gk rfl Tryd.runUnderlying9 (D7 rfl) D0 Mg) rfl fun hS => sM hS rfl fun hS => qF hS rfl Tryd.call21 (QW hG K (sub s3 (2 : Int) (s3.length : Int)) limit4 (hS.st.part 0 [] (by kernel_rfl)) (qs hM) (fun L0 Ma Mb w hM  hst => qA hS.ev hst.appF rfl fun hS => ?_))
    replace hS : Ss _ _ _ H [] F _ _ := hS
    refine sM hS rfl fun hS => sO hS (ex rfl rfl) rfl fun hS => sO hS (ex rfl rfl) rfl fun hS => sO hS (ex rfl rfl) rfl fun hS => sA hS rfl fun hS => sA hS rfl fun hS => sA hS rfl fun hS => qB <| wp_seq <| qm <| sM hS rfl fun hS => sB hS rfl fun hS => qB <| qG hS rfl hM (fun L6 hM => ?_) (fun L6 hM => ?_)
    ·refine wp_seq ?_
     refine zN <| sM hS rfl fun hS => sA hS rfl fun hS => sA hS rfl fun hS => sA hS rfl fun hS => qB <| wp_ret <| zm ?_
     exact zD (rs := [4, 5, 6]) hS rfl rfl (hret ([] : List UInt8) (0 : Int) Mb _ (q7 hM) (hS.st.pick [] (by kernel_rfl)))
    ·refine wp_skip ?_
     refine qe <| qm <| sM hS rfl fun hS => sB hS rfl fun hS => zE (v := Value.int .i64) (x0 := (qh (Ma + (2 : Int)))) hS (xy rfl) rfl fun LY a w hz hS => ?_
     have hM := qy hz hM; clear hz
     refine qB <| qm <| sM hS rfl fun hS => sM hS rfl fun hS => qF hS rfl Tryd.call20 (Vy hG K s3 (hS.st.part 0 [] (by kernel_rfl)) (qs hM) (fun  w hM  hst => qA hS.ev hst.appF rfl fun hS => ?_))
     replace hS : Ss _ _ _ H [] F _ _ := hS
     refine sM hS rfl fun hS => jR hS rfl rfl Tryd.call19 (jF hG K (yc.mk s3 (0 : Int)) LY (4 : Int) (hS.st.part 0 [] (by kernel_rfl)) (qs hM) (fun Mc L1 w hM  hst => qA hS.ev hst.appF rfl fun hS => ?_))
     replace hS : Ss _ _ _ H [] F _ _ := hS
     refine sM hS rfl fun hS => sO hS (ex rfl rfl) rfl fun hS => sO hS (ex rfl rfl) rfl fun hS => sA hS rfl fun hS => sA hS rfl fun hS => qB <| wp_seq <| xO <| qm <| sM hS rfl fun hS => sB hS rfl fun hS => zE (v := Value.bool) (x0 := (L1 != (0 : Int))) hS (xy rfl) rfl fun Mh a w hz hS => ?_
     have hM := qy hz hM; clear hz
     refine qB <| qG hS rfl hM (fun L7 hM => ?_) (fun L7 hM => ?_)
     ·refine wp_seq ?_
      refine zN <| sM hS rfl fun hS => sA hS rfl fun hS => sA hS rfl fun hS => sA hS rfl fun hS => qB <| wp_ret <| x3 (zm ?_)
      exact zD (rs := [4, 5, 6]) hS rfl rfl (hret ([] : List UInt8) (0 : Int) L1 _ (q7 hM) (hS.st.pick [] (by kernel_rfl)))
     ·refine wp_seq ?_
      refine zN <| sM hS rfl fun hS => sO hS (vU rfl Tryd.runUnderlying36 Tryd.runUnderlying25) rfl fun hS => sM hS rfl fun hS => qF hS rfl Tryd.call13 (Q9 hG K L0 (hS.st.part 0 [] (by kernel_rfl)) (qs hM) (fun Md w hM  hst => qA hS.ev hst.appF rfl fun hS => ?_))
      replace hS : Ss _ _ _ H [] F _ _ := hS
      refine sB hS rfl fun hS => zE (v := Value.bool) (x0 := ((wr .u32 Mc) != Md)) hS (xy rfl) rfl fun Mi a w hz hS => ?_
      have hM := qy hz hM; clear hz
      refine qB <| qG hS rfl hM (fun L8 hM => ?_) (fun L8 hM => ?_)
      ·refine wp_seq ?_
       refine zN <| sA hS rfl fun hS => sA hS rfl fun hS => sA hS rfl fun hS => qB <| wp_ret <| x3 (zm ?_)
       exact zD (rs := [4, 5, 6]) hS rfl rfl (hret ([] : List UInt8) (0 : Int) (4 : Int) _ (q7 hM) (hS.st.pick [] (by kernel_rfl)))
      ·refine wp_skip ?_
       refine zy (qe ?_)
       refine qm <| sM hS rfl fun hS => sM hS rfl fun hS => sB hS rfl fun hS => sA hS rfl fun hS => zE (v := Value.int .i64) (x0 := (qh (LY + (4 : Int)))) hS (xy rfl) rfl fun L9 a w hz hS => ?_
       have hM := qy hz hM; clear hz
       refine sA hS rfl fun hS => qB <| wp_ret ?_
       exact zD (rs := [4, 5, 6]) hS rfl rfl (hret L0 L9 (0 : Int) _ (q7 hM) (hS.st.pick [] (by kernel_rfl)))
theorem vf {H : xR} {F : List qk} {w : World} {R : Ending → World → Prop} {kr : Bool → Prop} {kp : Value → Prop} (hG : Gl H) (K : Nat)
    (hS : St w H [] F) (hm : (yn.m K).wp kr kp)
    (hret : ∀ (L4 : Bool) (w : World), kr L4 → St w H [] F → R (.returned (.bool L4)) w) :
    Calls Tryd.prog 6 ⟨[]⟩ w R := by
 refine enter Tryd.func6 rfl Tryd.ntmps6 rfl hS fun a w hS => ?_
 have hM := hm; clear hm
 rw [yn.m] at hM
 refine qm <| sA hS rfl fun hS => qB <| qm <| qF hS rfl Tryd.call11 (uI hG K ([120, 156, 3, 0, 0, 0, 0, 1, 122] : List UInt8) (0 : Int) (hS.st.part 0 [] (by kernel_rfl)) (qs hM) (fun LY LZ L0 w hM  hst => qA hS.ev hst.appF rfl fun hS => ?_))
 replace hS : Ss _ _ _ H [] F _ _ := hS
 refine sM hS rfl fun hS => sO hS (ex rfl rfl) rfl fun hS => sO hS (ex rfl rfl) rfl fun hS => sO hS (ex rfl rfl) rfl fun hS => sA hS rfl fun hS => sA hS rfl fun hS => sA hS rfl fun hS => qB <| qm <| qF hS rfl Tryd.call11 (uI hG K ([120, 156, 3, 0, 0, 0, 0, 2] : List UInt8) (0 : Int) (hS.st.part 0 [] (by kernel_rfl)) (qs hM) (fun L6 L7 L1 w hM  hst => qA hS.ev hst.appF rfl fun hS => ?_))
 replace hS : Ss _ _ _ H [] F _ _ := hS
 refine sM hS rfl fun hS => sO hS (ex rfl rfl) rfl fun hS => sO hS (ex rfl rfl) rfl fun hS => sO hS (ex rfl rfl) rfl fun hS => sA hS rfl fun hS => sA hS rfl fun hS => sA hS rfl fun hS => qB <| qm <| qF hS rfl Tryd.call11 (uI hG K ([120, 157] : List UInt8) (0 : Int) (hS.st.part 0 [] (by kernel_rfl)) (qs hM) (fun L8 L9 L3 w hM  hst => qA hS.ev hst.appF rfl fun hS => ?_))
 replace hS : Ss _ _ _ H [] F _ _ := hS
 refine sM hS rfl fun hS => sO hS (ex rfl rfl) rfl fun hS => sO hS (ex rfl rfl) rfl fun hS => sO hS (ex rfl rfl) rfl fun hS => sA hS rfl fun hS => sA hS rfl fun hS => sA hS rfl fun hS => qB <| qm <| sM hS rfl fun hS => sO hS (GD rfl rfl rfl) rfl fun hS => sM hS rfl fun hS => yS 2 true 27 (b := (LY == ([] : List UInt8))) (r := (LZ == (8 : Int))) hS rfl rfl rfl rfl rfl rfl rfl (fun hb a w hS K hK => ?_) rfl fun a w hS => ?_
 ·refine z2 hS rfl rfl rfl hb (mv rfl) rfl fun a w hS => ?_
  refine z2 hS rfl rfl rfl hb (jk rfl rfl rfl) rfl fun a w hS => ?_
  exact zp (hK _ _ (hS.up 2 rfl rfl))
 refine sM hS rfl fun hS => yS 2 true 31 (b := ((LY == ([] : List UInt8)) && (LZ == (8 : Int)))) (r := (L0 == (0 : Int))) hS rfl rfl rfl rfl rfl rfl rfl (fun hb a w hS K hK => ?_) rfl fun a w hS => ?_
 ·refine z2 hS rfl rfl rfl hb (mv rfl) rfl fun a w hS => ?_
  refine z2 hS rfl rfl rfl hb (jk rfl rfl rfl) rfl fun a w hS => ?_
  exact zp (hK _ _ (hS.up 2 rfl rfl))
 refine sM hS rfl fun hS => yS 2 true 35 (b := (((LY == ([] : List UInt8)) && (LZ == (8 : Int))) && (L0 == (0 : Int)))) (r := (L1 == (4 : Int))) hS rfl rfl rfl rfl rfl rfl rfl (fun hb a w hS K hK => ?_) rfl fun a w hS => ?_
 ·refine z2 hS rfl rfl rfl hb (mv rfl) rfl fun a w hS => ?_
  refine z2 hS rfl rfl rfl hb (jk rfl rfl rfl) rfl fun a w hS => ?_
  exact zp (hK _ _ (hS.up 2 rfl rfl))
 refine sM hS rfl fun hS => yS 2 true 39 (b := ((((LY == ([] : List UInt8)) && (LZ == (8 : Int))) && (L0 == (0 : Int))) && (L1 == (4 : Int)))) (r := (L3 == (3 : Int))) hS rfl rfl rfl rfl rfl rfl rfl (fun hb a w hS K hK => ?_) rfl fun a w hS => ?_
 ·refine z2 hS rfl rfl rfl hb (mv rfl) rfl fun a w hS => ?_
  refine z2 hS rfl rfl rfl hb (jk rfl rfl rfl) rfl fun a w hS => ?_
  exact zp (hK _ _ (hS.up 2 rfl rfl))
 refine zE (v := Value.bool) (x0 := (((((LY == ([] : List UInt8)) && (LZ == (8 : Int))) && (L0 == (0 : Int))) && (L1 == (4 : Int))) && (L3 == (3 : Int)))) hS (xy rfl) rfl fun L5 a w hz hS => ?_
 have hM := qy hz hM; clear hz
 refine qB <| wp_ret ?_
 exact zD (rs := [0]) hS rfl rfl (hret L5 _ (q7 hM) (hS.st.pick [] (by kernel_rfl)))
theorem QZ {H : xR} {F : List qk} {w : World} {R : Ending → World → Prop} {kr : Int → Prop} {kp : Value → Prop} (hG : Gl H) (K : Nat) (L4 : Int)
    (hS : St w H [] F) (hm : (zv.m K L4).wp kr kp)
    (hret : ∀ (L9 : Int) (w : World), kr L9 → St w H [] F → R (.returned (.int .i64 L9)) w) :
    Calls Tryd.prog 23 ⟨[.int .u64 L4]⟩ w R := by
 refine enter Tryd.func23 rfl Tryd.ntmps23 rfl hS fun a w hS => ?_
 have hM := hm; clear hm
 rw [zv.m] at hM
 refine qm <| sA hS rfl fun hS => qB <| zj (fun a w => ∃ (L1 : Int) (LY : Int), Ss 25 [] [(0, .int .u64 L1), (2, .int .i64 LY)] H [] F a w ∧ (zv.j1 K L1 LY).wp kr kp) (fun Mk L6 => ?_) ?_
 ·refine wp_seq ?_
  refine zN <| sM hS rfl fun hS => sB hS rfl fun hS => qB <| qG hS rfl hM (fun Ma hM => ?_) (fun Ma hM => ?_)
  ·refine wp_seq ?_
   refine zN <| sM hS rfl fun hS => sO hS (shr rfl rfl rfl) rfl fun hS => zE (v := Value.int .u64) (x0 := (z9 .u64 L4 (32 : Int))) hS (xy rfl) rfl fun Mh a w hz hS => ?_
   have hM := qy hz hM; clear hz
   refine qB <| zN <| sA hS rfl fun hS => zp <| qe ?_
   exact L6 _ _ ⟨Mh, (32 : Int), hS.to [] (by kernel_rfl) ⟨rfl, rfl, trivial⟩, hM⟩
  ·refine wp_skip ?_
   refine qe ?_
   exact L6 _ _ ⟨L4, (0 : Int), hS.to [] (by kernel_rfl) ⟨rfl, rfl, trivial⟩, hM⟩
 ·intro a w hI
  obtain ⟨L1, LY, hS, hM⟩ := hI
  rw [zv.j1] at hM
  refine zj (fun a w => ∃ (L3 : Int) (LZ : Int), Ss 25 [] [(0, .int .u64 L3), (2, .int .i64 LZ)] H [] F a w ∧ (zv.j2 K L3 LZ).wp kr kp) (fun Ml L7 => ?_) ?_
  ·refine wp_seq ?_
   refine zN <| sM hS rfl fun hS => sB hS rfl fun hS => qB <| qG hS rfl hM (fun Mb hM => ?_) (fun Mb hM => ?_)
   ·refine wp_seq ?_
    refine zN <| sM hS rfl fun hS => sO hS (shr rfl rfl rfl) rfl fun hS => zE (v := Value.int .u64) (x0 := (z9 .u64 L1 (16 : Int))) hS (xy rfl) rfl fun Mi a w hz hS => ?_
    have hM := qy hz hM; clear hz
    refine qB <| zN <| sM hS rfl fun hS => sB hS rfl fun hS => zE (v := Value.int .i64) (x0 := (qh (LY + (16 : Int)))) hS (xy rfl) rfl fun Me a w hz hS => ?_
    have hM := qy hz hM; clear hz
    refine zp <| qe ?_
    exact L7 _ _ ⟨Mi, Me, hS.to [] (by kernel_rfl) ⟨rfl, rfl, trivial⟩, hM⟩
   ·refine wp_skip ?_
    refine qe ?_
    exact L7 _ _ ⟨L1, LY, hS.to [] (by kernel_rfl) ⟨rfl, rfl, trivial⟩, hM⟩
  ·intro a w hI
   obtain ⟨L3, LZ, hS, hM⟩ := hI
   rw [zv.j2] at hM
   refine zj (fun a w => ∃ (L5 : Int) (L0 : Int), Ss 25 [] [(0, .int .u64 L5), (2, .int .i64 L0)] H [] F a w ∧ (zv.j3 K L5 L0).wp kr kp) (fun Mm L8 => ?_) ?_
   ·refine wp_seq ?_
    refine zN <| sM hS rfl fun hS => sB hS rfl fun hS => qB <| qG hS rfl hM (fun Mc hM => ?_) (fun Mc hM => ?_)
    ·refine wp_seq ?_
     refine zN <| sM hS rfl fun hS => sO hS (shr rfl rfl rfl) rfl fun hS => zE (v := Value.int .u64) (x0 := (z9 .u64 L3 (8 : Int))) hS (xy rfl) rfl fun Mj a w hz hS => ?_
     have hM := qy hz hM; clear hz
     refine qB <| zN <| sM hS rfl fun hS => sB hS rfl fun hS => zE (v := Value.int .i64) (x0 := (qh (LZ + (8 : Int)))) hS (xy rfl) rfl fun Mf a w hz hS => ?_
     have hM := qy hz hM; clear hz
     refine zp <| qe ?_
     exact L8 _ _ ⟨Mj, Mf, hS.to [] (by kernel_rfl) ⟨rfl, rfl, trivial⟩, hM⟩
    ·refine wp_skip ?_
     refine qe ?_
     exact L8 _ _ ⟨L3, LZ, hS.to [] (by kernel_rfl) ⟨rfl, rfl, trivial⟩, hM⟩
   ·intro a w hI
    obtain ⟨L5, L0, hS, hM⟩ := hI
    rw [zv.j3] at hM
    refine qm <| sM hS rfl fun hS => sM hS rfl fun hS => sO hS (vU rfl Tryd.runUnderlying36 Tryd.runUnderlying5) rfl fun hS => ?_
    obtain ⟨Md, hM⟩ := qK hM
    refine sO hS (VQ rfl rfl Tryd.runUnderlying9 Md) rfl fun hS => sO hS (vU rfl Tryd.runUnderlying5 Tryd.runUnderlying3) rfl fun hS => sB hS rfl fun hS => zE (v := Value.int .i64) (x0 := (qh (L0 + (wr .i64 ((rd ([0, 1, 2, 2, 3, 3, 3, 3, 4, 4, 4, 4, 4, 4, 4, 4, 5, 5, 5, 5, 5, 5, 5, 5, 5, 5, 5, 5, 5, 5, 5, 5, 6, 6, 6, 6, 6, 6, 6, 6, 6, 6, 6, 6, 6, 6, 6, 6, 6, 6, 6, 6, 6, 6, 6, 6, 6, 6, 6, 6, 6, 6, 6, 6, 7, 7, 7, 7, 7, 7, 7, 7, 7, 7, 7, 7, 7, 7, 7, 7, 7, 7, 7, 7, 7, 7, 7, 7, 7, 7, 7, 7, 7, 7, 7, 7, 7, 7, 7, 7, 7, 7, 7, 7, 7, 7, 7, 7, 7, 7, 7, 7, 7, 7, 7, 7, 7, 7, 7, 7, 7, 7, 7, 7, 7, 7, 7, 7, 8, 8, 8, 8, 8, 8, 8, 8, 8, 8, 8, 8, 8, 8, 8, 8, 8, 8, 8, 8, 8, 8, 8, 8, 8, 8, 8, 8, 8, 8, 8, 8, 8, 8, 8, 8, 8, 8, 8, 8, 8, 8, 8, 8, 8, 8, 8, 8, 8, 8, 8, 8, 8, 8, 8, 8, 8, 8, 8, 8, 8, 8, 8, 8, 8, 8, 8, 8, 8, 8, 8, 8, 8, 8, 8, 8, 8, 8, 8, 8, 8, 8, 8, 8, 8, 8, 8, 8, 8, 8, 8, 8, 8, 8, 8, 8, 8, 8, 8, 8, 8, 8, 8, 8, 8, 8, 8, 8, 8, 8, 8, 8, 8, 8, 8, 8, 8, 8, 8, 8, 8, 8, 8, 8, 8, 8, 8, 8] : List UInt8) (wr .u8 L5)).toNat : Int))))) hS (xy rfl) rfl fun Mg a w hz hS => ?_
    have hM := qy hz hM; clear hz
    refine qB <| wp_ret ?_
    exact zD (rs := [2]) hS rfl rfl (hret Mg _ (q7 hM) (hS.st.pick [] (by kernel_rfl)))
theorem ZJ {H : xR} {F : List qk} {w : World} {R : Ending → World → Prop} {kr : ((List UInt8) × Int) → Prop} {kp : Value → Prop} (hG : Gl H) (K : Nat) (LZ : Int) (L0 : Int)
    (hS : St w H [] F) (hm : (xl.m K LZ L0).wp kr kp)
    (hret : ∀ (Mf : List UInt8) (Mg : Int) (w : World), kr (Mf, Mg) → St w H [] F → R (.returned (.tuple ⟨[xf Mf, .int .i64 Mg]⟩)) w) :
    Calls Tryd.prog 12 ⟨[.int .u64 LZ, .int .i64 L0, .bool true]⟩ w R := by
 refine enter Tryd.func12 rfl Tryd.ntmps12 rfl hS fun a w hS => ?_
 have hM := hm; clear hm
 rw [xl.m] at hM
 refine qm <| sA hS rfl fun hS => sA hS rfl fun hS => qB <| wp_seq <| qm <| sM hS rfl fun hS => qF hS rfl Tryd.call22 (Qx hG K L0 (hS.st.part 0 [] (by kernel_rfl)) (qs hM) (fun Mv w hM  hst => qA hS.ev hst.appF rfl fun hS => ?_))
 replace hS : Ss _ _ _ H [] F _ _ := hS
 refine sO hS (un rfl rfl) rfl fun hS => qB <| qG hS rfl hM (fun Mk hM => ?_) (fun Mk hM => ?_)
 ·refine wp_seq ?_
  refine zN <| sA hS rfl fun hS => sA hS rfl fun hS => qB <| wp_ret <| zm ?_
  exact zD (rs := [6, 7]) hS rfl rfl (hret ([] : List UInt8) (1 : Int) _ (q7 hM) (hS.st.pick [] (by kernel_rfl)))
 ·refine wp_skip ?_
  refine qe <| wp_seq <| qm <| sM hS rfl fun hS => qF hS rfl Tryd.call23 (QZ hG K LZ (hS.st.part 0 [] (by kernel_rfl)) (qs hM) (fun Mw w hM  hst => qA hS.ev hst.appF rfl fun hS => ?_))
  replace hS : Ss _ _ _ H [] F _ _ := hS
  refine sM hS rfl fun hS => sB hS rfl fun hS => sB hS rfl fun hS => qB <| qG hS rfl hM (fun Ml hM => ?_) (fun Ml hM => ?_)
  ·refine wp_seq ?_
   refine zN <| sA hS rfl fun hS => sA hS rfl fun hS => qB <| wp_ret <| zm ?_
   exact zD (rs := [6, 7]) hS rfl rfl (hret ([] : List UInt8) (10 : Int) _ (q7 hM) (hS.st.pick [] (by kernel_rfl)))
  ·refine wp_skip ?_
   refine qe <| qm <| sM hS rfl fun hS => sM hS rfl fun hS => qF hS rfl Tryd.call24 (ue hG K L0 (hS.st.part 0 [] (by kernel_rfl)) (qs hM) (fun L4 L9 w hM Ms hst => qA hS.ev hst.appF rfl fun hS => ?_))
   replace hS : Ss _ _ _ H [L9] F _ _ := hS
   refine sA hS rfl fun hS => qB <| qm <| sM hS rfl fun hS => ?_
   obtain ⟨Mn, hM⟩ := qK hM
   refine BC (g := (ci .u8)) (m := L0) (0 : Int) hS rfl rfl (by simp) Tryd.runUnderlying32 X.el5 (fun w => ⟨_, Tryd.zeroValue5 w, rfl⟩) (fun _ => rfl) rfl rfl Mn rfl fun L7 w L3 L5 Mq hz Mi hS => ?_
   have hM := qy hz hM; clear hz
   refine sA hS rfl fun hS => qB <| wp_seq <| qm <| sM hS rfl fun hS => sO hS (yj rfl Tryd.runUnderlying32) rfl fun hS => sM hS rfl fun hS => qB <| xO <| zu (fun Me a w => ∃ (L1 : (List Int)) (Ma : qk) (LY : Int), Ss 42 [] [(0, .int .u64 LZ), (8, jt 45 [] [qL L4 0]), (9, .slice L3 L1.length L5), (25, .int .i64 (L7.length : Int)), (26, .int .i64 LY)] H [L9, Ma] F a w ∧ (xi 5 (ci .u8) 1 L3 L1 L5 Ma) ∧ (xl.l1 K LZ L0 L7 Me L1 LY).wp kr kp) K ?_ ?_ ?_
   ·exact ⟨L7, Mq, (0 : Int), hS.to [1, 0] (by kernel_rfl) ⟨rfl, rfl, rfl, rfl, rfl, trivial⟩, Mi, hM⟩
   ·intro a w hI; obtain ⟨_, _, _, _, _, hM⟩ := hI; exact zt hM
   ·intro Me a w hI Mu Mh
    obtain ⟨L1, Ma, LY, hS, L8, hM⟩ := hI
    rw [xl.l1] at hM
    refine qm <| sB hS rfl fun hS => qB <| wp_seq <| qG hS rfl hM (fun Mm hM => ?_) (fun Mm hM => ?_)
    ·refine wp_skip ?_
     refine qe <| wp_seq <| xO <| qm <| sM hS rfl fun hS => sA hS rfl fun hS => zp <| qe ?_
     obtain ⟨Mb, hM⟩ := qK hM
     refine za (vals := [some (.slice L3 L1.length L5), some (jt 45 [] [qL L4 0]), some (.int .i64 LY), none, some (.int .u64 LZ), some (.int .i64 LY), some (.int .i64 (qh ((8 : Int) * LY))), some (.int .u64 (z9 .u64 LZ (qh ((8 : Int) * LY)))), some (.int .u8 (wr .u8 (z9 .u64 LZ (qh ((8 : Int) * LY))))), none, none]) hS xE rfl ?_
     intro l w ho hcl hA hst
     refine y9 hA hst ho hcl xx xF 3 [0, 1, 2, 4, 5, 6, 7, 8] rfl rfl rfl rfl rfl (by exact ⟨nM rfl, nM rfl, nM rfl, nM rfl, nM rfl, nB rfl, nQ rfl (by exact qX (shr rfl rfl Mb) rfl), nQ rfl (by exact qX (vU rfl Tryd.runUnderlying36 Tryd.runUnderlying5) rfl), trivial⟩) fun D l a w ho hcl hav hpre hm hE hk hA hst => ?_
     have hS := (Ss.mk hE hst).env2 (e' := [(30, jt 45 [] [qL L4 0]), (31, .int .i64 LY)]) ⟨rfl, rfl, trivial⟩
     refine qQ rfl <| jR hS rfl rfl Tryd.call45 (vG hG K LY L0 L4 L9 Ms (hS.st.part 1 [0, 1] (by kernel_rfl)) (qs hM) (fun L6 w hM  hst => qA hS.ev hst.appF rfl fun hS => ?_))
     replace hS : Ss _ _ _ H [L9, Ma] F _ _ := hS
     refine qB ?_
     replace hst := hS.st
     obtain ⟨Mc, hM⟩ := qK hM
     obtain ⟨hcl, hmust, hav2, hA⟩ := dn (vals' := [some (.slice L3 L1.length L5), some (jt 45 [] [qL L4 0]), some (.int .i64 LY), some (.int .i64 L6), some (.int .u64 LZ), some (.int .i64 LY), some (.int .i64 (qh ((8 : Int) * LY))), some (.int .u64 (z9 .u64 LZ (qh ((8 : Int) * LY)))), some (.int .u8 (wr .u8 (z9 .u64 LZ (qh ((8 : Int) * LY))))), some (xG L3 (Int.toNat L6 * 1)), none]) 3 [(1, 3), (2, 3)] hA hcl hav hm hpre hk rfl rfl rfl rfl rfl rfl rfl
     clear hm hav
     refine y9 hA hst ho hcl hav2 hmust 10 [0, 4, 5, 6, 7, 8, 9] rfl rfl rfl rfl rfl (by exact ⟨nM rfl, nM rfl, nM rfl, nB rfl, nQ rfl (by exact qX (shr rfl rfl Mb) rfl), nQ rfl (by exact qX (vU rfl Tryd.runUnderlying36 Tryd.runUnderlying5) rfl), nQ rfl (by exact qX (yu rfl rfl Tryd.runUnderlying32 Tryd.sizeOf5 (L8.rd (i := 1) rfl) (fun _ => rfl) rfl Mc) rfl), trivial⟩) fun D l a w ho hcl hav hpre hm hE hk hA hst => ?_
     have hS := (Ss.mk hE hst).env2 (e' := [(37, .int .u8 (wr .u8 (z9 .u64 LZ (qh ((8 : Int) * LY))))), (38, xG L3 (Int.toNat L6 * 1))]) ⟨rfl, rfl, trivial⟩
     refine qQ rfl <| JB (i := L6) (sz := 1) 1 0 ((wr .u8 (z9 .u64 LZ (qh ((8 : Int) * LY))))) hS rfl rfl L8 rfl Tryd.sizeOf5 (u3 (wr .u8 (z9 .u64 LZ (qh ((8 : Int) * LY))))) (fun _ => rfl) Mc rfl rfl fun Md w Mr hz Mp Mj hS => ?_
     have hM := qy hz hM; clear hz
     refine qB ?_
     replace hst := hS.st
     obtain ⟨hcl, hmust, hav2, hA⟩ := Xx (vals' := [some (.slice L3 L1.length L5), some (jt 45 [] [qL L4 0]), some (.int .i64 LY), some (.int .i64 L6), some (.int .u64 LZ), some (.int .i64 LY), some (.int .i64 (qh ((8 : Int) * LY))), some (.int .u64 (z9 .u64 LZ (qh ((8 : Int) * LY)))), some (.int .u8 (wr .u8 (z9 .u64 LZ (qh ((8 : Int) * LY))))), some (xG L3 (Int.toNat L6 * 1)), some undef]) 10 [(0, 10), (1, 10), (2, 10), (3, 10), (4, 10), (5, 10), (6, 10), (7, 10), (8, 10), (9, 10)] hA hcl hav hm hpre rfl rfl rfl rfl rfl
     clear hm hav
     refine yk hA hst ho hcl hmust [] rfl rfl rfl trivial fun a w hS => ?_
     replace hS := hS.env2 (e' := [(0, .int .u64 LZ), (8, jt 45 [] [qL L4 0]), (9, .slice L3 Md.length L5), (25, .int .i64 (L7.length : Int)), (26, .int .i64 LY)]) ⟨rfl, rfl, (Kc (u := .slice L3 L1.length L5) rfl (by rw [Mp])), rfl, rfl, trivial⟩
     refine zy (qe ?_)
     refine zN <| sB hS rfl fun hS => sM hS rfl fun hS => zp <| qe ?_
     exact Mh _ _ ⟨Md, Mr, (qh (LY + (1 : Int))), hS.to [0, 1] (by kernel_rfl) ⟨rfl, rfl, rfl, rfl, rfl, trivial⟩, Mj, hM⟩
    ·refine wp_exit ?_
     refine qE (qE (ze (qe ?_)))
     refine qm <| sM hS rfl fun hS => sO hS (Gr rfl Tryd.runUnderlying32 Tryd.runUnderlying5 Tryd.runUnderlying9 (L8.rd (i := 1) rfl)) rfl fun hS => zE (v := xf) (x0 := (L1.map uh)) hS (xy rfl) rfl fun Mt a w hz hS => ?_
     have hM := qy hz hM; clear hz
     refine sA hS rfl fun hS => qB <| wp_ret ?_
     exact zD (rs := [6, 7]) hS rfl rfl (hret Mt (0 : Int) _ (q7 hM) (hS.st.pick [] (by kernel_rfl)))
theorem vQ {H : xR} {F : List qk} {w : World} {R : Ending → World → Prop} {kr : Unit → Prop} {kp : Value → Prop} (hG : Gl H) (K : Nat) (LY : xn) (LZ : Int) (L0 : Nat) (L5 : qk) (L7 : Nat) (L6 : qk) (L1 : xJ L5 L0 ([xf LY.text_, .map (some L7)]) 55) (Md : Xp (Kj .u8) (Kk 3) 3 (ci .i64) 1 L7 LY.seen_ L6)
    (hS : St w H [L5, L6] F) (hm : (yA.m K LY LZ).wp kr kp)
    (hret : ∀ (w : World), kr () → St w H [L5, L6] F → R (.returned (.agg ⟨([((rd LY.text_ LZ).toNat : Int), ((rd LY.text_ (qh (LZ + (1 : Int)))).toNat : Int), ((rd LY.text_ (qh (LZ + (2 : Int)))).toNat : Int)] : List Int).flatMap (ci .u8)⟩)) w) :
    Calls Tryd.prog 47 ⟨[qL L0 0, .int .i64 LZ]⟩ w R := by
 refine enter Tryd.func47 rfl Tryd.ntmps47 rfl hS fun a w hS => ?_
 have hM := hm; clear hm
 rw [yA.m] at hM
 refine qm <| Qf ((List.replicate 3 (0 : Int)).flatMap (ci .u8)) hS Tryd.zeroValue100 rfl rfl fun w L4 Me L8 hS => qB <| wp_seq ?_
 obtain ⟨L9, hM⟩ := qK hM
 obtain ⟨Ma, hM⟩ := qK hM
 obtain ⟨Mb, hM⟩ := qK hM
 refine za (vals := [some (qL L0 0), some (qL L0 0), some (qL L0 0), some (xf LY.text_), some (.int .i64 LZ), some (.int .u8 ((rd LY.text_ LZ).toNat : Int)), some (qL L0 0), some (qL L0 0), some (qL L0 0), some (xf LY.text_), some (.int .i64 LZ), some (.int .i64 (qh (LZ + (1 : Int)))), some (.int .u8 ((rd LY.text_ (qh (LZ + (1 : Int)))).toNat : Int)), some (qL L0 0), some (qL L0 0), some (qL L0 0), some (xf LY.text_), some (.int .i64 LZ), some (.int .i64 (qh (LZ + (2 : Int)))), some (.int .u8 ((rd LY.text_ (qh (LZ + (2 : Int)))).toNat : Int)), some (.agg ⟨([((rd LY.text_ LZ).toNat : Int), ((rd LY.text_ (qh (LZ + (1 : Int)))).toNat : Int), ((rd LY.text_ (qh (LZ + (2 : Int)))).toNat : Int)] : List Int).flatMap (ci .u8)⟩), none]) hS xE rfl ?_
 intro l w ho hcl hA hst
 refine y9 hA hst ho hcl xx xF 21 [0, 1, 2, 3, 4, 5, 6, 7, 8, 9, 10, 11, 12, 13, 14, 15, 16, 17, 18, 19, 20] rfl rfl rfl rfl rfl (by exact ⟨nM rfl, nQ rfl (by exact qX (yw rfl) rfl), nQ rfl (by exact qX (xv rfl Tryd.runUnderlying55 rfl Tryd.sizeOf9 rfl) rfl), nQ rfl (by exact qX (xY 1 rfl L1 rfl rfl Tryd.isAgg9) rfl), nM rfl, nQ rfl (by exact qX (VQ rfl rfl Tryd.runUnderlying9 L9) rfl), nM rfl, nQ rfl (by exact qX (yw rfl) rfl), nQ rfl (by exact qX (xv rfl Tryd.runUnderlying55 rfl Tryd.sizeOf9 rfl) rfl), nQ rfl (by exact qX (xY 1 rfl L1 rfl rfl Tryd.isAgg9) rfl), nM rfl, nB rfl, nQ rfl (by exact qX (VQ rfl rfl Tryd.runUnderlying9 Ma) rfl), nM rfl, nQ rfl (by exact qX (yw rfl) rfl), nQ rfl (by exact qX (xv rfl Tryd.runUnderlying55 rfl Tryd.sizeOf9 rfl) rfl), nQ rfl (by exact qX (xY 1 rfl L1 rfl rfl Tryd.isAgg9) rfl), nM rfl, nB rfl, nQ rfl (by exact qX (VQ rfl rfl Tryd.runUnderlying9 Mb) rfl), nQ rfl (by exact qX (Ku (([((rd LY.text_ LZ).toNat : Int), ((rd LY.text_ (qh (LZ + (1 : Int)))).toNat : Int), ((rd LY.text_ (qh (LZ + (2 : Int)))).toNat : Int)] : List Int).flatMap (ci .u8)) Tryd.zeroValue100 Tryd.runUnderlying100 Tryd.sizeOf5 rfl (by kernel_rfl)) rfl), trivial⟩) fun D l a w ho hcl hav hpre hm hE hk hA hst => ?_
 have hS := (Ss.mk hE hst).env2 (e' := [(4, qL L4 0), (25, .agg ⟨([((rd LY.text_ LZ).toNat : Int), ((rd LY.text_ (qh (LZ + (1 : Int)))).toNat : Int), ((rd LY.text_ (qh (LZ + (2 : Int)))).toNat : Int)] : List Int).flatMap (ci .u8)⟩)]) ⟨rfl, rfl, trivial⟩
 refine qQ rfl <| Yi (xs := (List.replicate 3 (0 : Int))) (ys := ([((rd LY.text_ LZ).toNat : Int), ((rd LY.text_ (qh (LZ + (1 : Int)))).toNat : Int), ((rd LY.text_ (qh (LZ + (2 : Int)))).toNat : Int)] : List Int)) (g := (ci .u8)) (pre := []) (post := []) 0 hS rfl rfl L8 rfl (by simp) rfl (xg (g := (ci .u8)) (sz := 1) (fun _ => rfl) (List.length_replicate ..)) (xg (g := (ci .u8)) (sz := 1) (fun _ => rfl) rfl) (u3) Tryd.sizeOf100 fun w Mc L3 hS => ?_
 replace L3 : xJ Mc L4 (([((rd LY.text_ LZ).toNat : Int), ((rd LY.text_ (qh (LZ + (1 : Int)))).toNat : Int), ((rd LY.text_ (qh (LZ + (2 : Int)))).toNat : Int)] : List Int).flatMap (ci .u8)) 100 := by simpa using L3
 refine qB ?_
 replace hst := hS.st
 obtain ⟨hcl, hmust, hav2, hA⟩ := Xx (vals' := [some (qL L0 0), some (qL L0 0), some (qL L0 0), some (xf LY.text_), some (.int .i64 LZ), some (.int .u8 ((rd LY.text_ LZ).toNat : Int)), some (qL L0 0), some (qL L0 0), some (qL L0 0), some (xf LY.text_), some (.int .i64 LZ), some (.int .i64 (qh (LZ + (1 : Int)))), some (.int .u8 ((rd LY.text_ (qh (LZ + (1 : Int)))).toNat : Int)), some (qL L0 0), some (qL L0 0), some (qL L0 0), some (xf LY.text_), some (.int .i64 LZ), some (.int .i64 (qh (LZ + (2 : Int)))), some (.int .u8 ((rd LY.text_ (qh (LZ + (2 : Int)))).toNat : Int)), some (.agg ⟨([((rd LY.text_ LZ).toNat : Int), ((rd LY.text_ (qh (LZ + (1 : Int)))).toNat : Int), ((rd LY.text_ (qh (LZ + (2 : Int)))).toNat : Int)] : List Int).flatMap (ci .u8)⟩), some undef]) 21 [(0, 21), (1, 21), (2, 21), (3, 21), (4, 21), (5, 21), (6, 21), (7, 21), (8, 21), (9, 21), (10, 21), (11, 21), (12, 21), (13, 21), (14, 21), (15, 21), (16, 21), (17, 21), (18, 21), (19, 21), (20, 21)] hA hcl hav hm hpre rfl rfl rfl rfl rfl
 clear hm hav
 refine yk hA hst ho hcl hmust [] rfl rfl rfl trivial fun a w hS => ?_
 replace hS := hS.env2 (e' := [(4, qL L4 0)]) ⟨rfl, trivial⟩
 refine qe <| wp_ret ?_
 exact jc (vs := [.agg ⟨([((rd LY.text_ LZ).toNat : Int), ((rd LY.text_ (qh (LZ + (1 : Int)))).toNat : Int), ((rd LY.text_ (qh (LZ + (2 : Int)))).toNat : Int)] : List Int).flatMap (ci .u8)⟩]) hS rfl (by exact ⟨GX 0 rfl L3 rfl (xg (g := (ci .u8)) (sz := 1) (fun _ => rfl) rfl) Tryd.isAgg100 Tryd.sizeOf100, trivial⟩) (hret _ (q7 hM) (hS.st.pick [1, 2] (by kernel_rfl)))
theorem Qq {H : xR} {F : List qk} {w : World} {R : Ending → World → Prop} {kr : Int → Prop} {kp : Value → Prop} (hG : Gl H) (K : Nat) (LZ : xn) (L1 : Int) (L0 : Int) (L3 : Nat) (L6 : qk) (Mc : Nat) (L7 : qk) (L4 : xJ L6 L3 ([xf LZ.text_, .map (some Mc)]) 55) (Mj : Xp (Kj .u8) (Kk 3) 3 (ci .i64) 1 Mc LZ.seen_ L7)
    (hS : St w H [L6, L7] F) (hm : (zA.m K LZ L1 L0).wp kr kp)
    (hret : ∀ (Md : Int) (w : World), kr Md → St w H [L6, L7] F → R (.returned (.int .i64 Md)) w) :
    Calls Tryd.prog 48 ⟨[qL L3 0, .int .i64 L1, .int .i64 L0]⟩ w R := by
 refine enter Tryd.func48 rfl Tryd.ntmps48 rfl hS fun a w hS => ?_
 have hM := hm; clear hm
 rw [zA.m] at hM
 refine qm <| sA hS rfl fun hS => qB <| qm <| sA hS rfl fun hS => qB <| wp_seq <| xO <| zu (fun Ma a w => ∃ (LY : Int), Ss 43 [] [(0, qL L3 0), (1, .int .i64 L1), (2, .int .i64 L0), (7, .int .i64 LY)] H [L6, L7] F a w ∧ (zA.l1 K LZ L1 L0 Ma LY).wp kr kp) K ?_ ?_ ?_
 ·exact ⟨(0 : Int), hS.to [0, 1] (by kernel_rfl) ⟨rfl, rfl, rfl, rfl, trivial⟩, hM⟩
 ·intro a w hI; obtain ⟨_, _, hM⟩ := hI; exact zt hM
 ·intro Ma a w hI Ml Me
  obtain ⟨LY, hS, hM⟩ := hI
  rw [zA.l1] at hM
  refine wp_seq <| zj (fun a w => ∃ (Mb : Bool), Ss 43 [] [(0, qL L3 0), (1, .int .i64 L1), (2, .int .i64 L0), (7, .int .i64 LY), (39, .bool Mb)] H [L6, L7] F a w ∧ (zA.j2 K (zA.l1 K LZ L1 L0 Ma) LY Mb).wp kr kp) (fun Mk L8 => ?_) ?_
  ·refine Gs (b := (decide (LY < (258 : Int)))) hM (fun L5 hM => ?_) (fun L5 hM => ?_)
   ·refine Gs (b := (decide ((qh (L0 + LY)) < (LZ.text_.length : Int)))) hM (fun L9 hM => ?_) (fun L9 hM => ?_)
    ·obtain ⟨Mg, hM⟩ := qK hM
     obtain ⟨Mh, hM⟩ := qK hM
     refine za (vals := [some (.int .i64 LY), some (.bool true), some (.bool true), some (.int .i64 L0), some (.int .i64 LY), some (.int .i64 (qh (L0 + LY))), some (qL L3 0), some (qL L3 0), some (qL L3 0), some (xf LZ.text_), some (.int .i64 (LZ.text_.length : Int)), some (.bool true), some (.bool true), some (.bool true), some (qL L3 0), some (qL L3 0), some (qL L3 0), some (xf LZ.text_), some (.int .i64 L1), some (.int .i64 LY), some (.int .i64 (qh (L1 + LY))), some (.int .u8 ((rd LZ.text_ (qh (L1 + LY))).toNat : Int)), some (qL L3 0), some (qL L3 0), some (qL L3 0), some (xf LZ.text_), some (.int .i64 L0), some (.int .i64 LY), some (.int .i64 (qh (L0 + LY))), some (.int .u8 ((rd LZ.text_ (qh (L0 + LY))).toNat : Int)), some (.bool (((rd LZ.text_ (qh (L1 + LY))).toNat : Int) == ((rd LZ.text_ (qh (L0 + LY))).toNat : Int))), some (.bool (((rd LZ.text_ (qh (L1 + LY))).toNat : Int) == ((rd LZ.text_ (qh (L0 + LY))).toNat : Int)))]) hS xE rfl ?_
     intro l w ho hcl hA hst
     refine yk hA hst ho hcl xF [0, 1, 2, 3, 4, 5, 6, 7, 8, 9, 10, 11, 12, 13, 14, 15, 16, 17, 18, 19, 20, 21, 22, 23, 24, 25, 26, 27, 28, 29, 30, 31] rfl rfl rfl (by exact ⟨nM rfl, nQ rfl (by exact qX (jk rfl rfl rfl) (congrArg Value.bool L5)), nM rfl, nW rfl rfl rfl rfl rfl rfl rfl rfl (by exact qX (mv rfl) rfl), nW rfl rfl rfl rfl rfl rfl rfl rfl (by exact qX (mv rfl) rfl), nW rfl rfl rfl rfl rfl rfl rfl rfl (by exact qX (jk rfl rfl rfl) rfl), nW rfl rfl rfl rfl rfl rfl rfl rfl (by exact qX (mv rfl) rfl), nW rfl rfl rfl rfl rfl rfl rfl rfl (by exact qX (yw rfl) rfl), nW rfl rfl rfl rfl rfl rfl rfl rfl (by exact qX (xv rfl Tryd.runUnderlying55 rfl Tryd.sizeOf9 rfl) rfl), nW rfl rfl rfl rfl rfl rfl rfl rfl (by exact qX (xY 0 rfl L4 rfl rfl Tryd.isAgg9) rfl), nW rfl rfl rfl rfl rfl rfl rfl rfl (by exact qX (uu rfl Tryd.runUnderlying9) rfl), nW rfl rfl rfl rfl rfl rfl rfl rfl (by exact qX (jk rfl rfl rfl) (congrArg Value.bool L9)), nQ rfl (by exact qX (pk rfl rfl rfl) rfl), nM rfl, nW rfl rfl rfl rfl rfl rfl rfl rfl (by exact qX (mv rfl) rfl), nW rfl rfl rfl rfl rfl rfl rfl rfl (by exact qX (yw rfl) rfl), nW rfl rfl rfl rfl rfl rfl rfl rfl (by exact qX (xv rfl Tryd.runUnderlying55 rfl Tryd.sizeOf9 rfl) rfl), nW rfl rfl rfl rfl rfl rfl rfl rfl (by exact qX (xY 0 rfl L4 rfl rfl Tryd.isAgg9) rfl), nW rfl rfl rfl rfl rfl rfl rfl rfl (by exact qX (mv rfl) rfl), nW rfl rfl rfl rfl rfl rfl rfl rfl (by exact qX (mv rfl) rfl), nW rfl rfl rfl rfl rfl rfl rfl rfl (by exact qX (jk rfl rfl rfl) rfl), nW rfl rfl rfl rfl rfl rfl rfl rfl (by exact qX (VQ rfl rfl Tryd.runUnderlying9 Mg) rfl), nW rfl rfl rfl rfl rfl rfl rfl rfl (by exact qX (mv rfl) rfl), nW rfl rfl rfl rfl rfl rfl rfl rfl (by exact qX (yw rfl) rfl), nW rfl rfl rfl rfl rfl rfl rfl rfl (by exact qX (xv rfl Tryd.runUnderlying55 rfl Tryd.sizeOf9 rfl) rfl), nW rfl rfl rfl rfl rfl rfl rfl rfl (by exact qX (xY 0 rfl L4 rfl rfl Tryd.isAgg9) rfl), nW rfl rfl rfl rfl rfl rfl rfl rfl (by exact qX (mv rfl) rfl), nW rfl rfl rfl rfl rfl rfl rfl rfl (by exact qX (mv rfl) rfl), nW rfl rfl rfl rfl rfl rfl rfl rfl (by exact qX (jk rfl rfl rfl) rfl), nW rfl rfl rfl rfl rfl rfl rfl rfl (by exact qX (VQ rfl rfl Tryd.runUnderlying9 Mh) rfl), nW rfl rfl rfl rfl rfl rfl rfl rfl (by exact qX (jk rfl rfl rfl) rfl), nQ rfl (by exact qX (pk rfl rfl rfl) rfl), trivial⟩) fun a w hS => ?_
     replace hS := hS.env2 (e' := [(0, qL L3 0), (1, .int .i64 L1), (2, .int .i64 L0), (7, .int .i64 LY), (39, .bool (((rd LZ.text_ (qh (L1 + LY))).toNat : Int) == ((rd LZ.text_ (qh (L0 + LY))).toNat : Int)))]) ⟨rfl, rfl, rfl, rfl, rfl, trivial⟩
     refine qe ?_
     exact L8 _ _ ⟨(((rd LZ.text_ (qh (L1 + LY))).toNat : Int) == ((rd LZ.text_ (qh (L0 + LY))).toNat : Int)), hS.to [0, 1] (by kernel_rfl) ⟨rfl, rfl, rfl, rfl, rfl, trivial⟩, hM⟩
    ·refine za (vals := [some (.int .i64 LY), some (.bool true), some (.bool true), some (.int .i64 L0), some (.int .i64 LY), some (.int .i64 (qh (L0 + LY))), some (qL L3 0), some (qL L3 0), some (qL L3 0), some (xf LZ.text_), some (.int .i64 (LZ.text_.length : Int)), some (.bool false), some (.bool false), some (.bool false), some (undef), some (undef), some (undef), some (undef), some (undef), some (undef), some (undef), some (undef), some (undef), some (undef), some (undef), some (undef), some (undef), some (undef), some (undef), some (undef), some (undef), some (.bool false)]) hS xE rfl ?_
     intro l w ho hcl hA hst
     refine yk hA hst ho hcl xF [0, 1, 2, 3, 4, 5, 6, 7, 8, 9, 10, 11, 12, 13, 14, 15, 16, 17, 18, 19, 20, 21, 22, 23, 24, 25, 26, 27, 28, 29, 30, 31] rfl rfl rfl (by exact ⟨nM rfl, nQ rfl (by exact qX (jk rfl rfl rfl) (congrArg Value.bool L5)), nM rfl, nW rfl rfl rfl rfl rfl rfl rfl rfl (by exact qX (mv rfl) rfl), nW rfl rfl rfl rfl rfl rfl rfl rfl (by exact qX (mv rfl) rfl), nW rfl rfl rfl rfl rfl rfl rfl rfl (by exact qX (jk rfl rfl rfl) rfl), nW rfl rfl rfl rfl rfl rfl rfl rfl (by exact qX (mv rfl) rfl), nW rfl rfl rfl rfl rfl rfl rfl rfl (by exact qX (yw rfl) rfl), nW rfl rfl rfl rfl rfl rfl rfl rfl (by exact qX (xv rfl Tryd.runUnderlying55 rfl Tryd.sizeOf9 rfl) rfl), nW rfl rfl rfl rfl rfl rfl rfl rfl (by exact qX (xY 0 rfl L4 rfl rfl Tryd.isAgg9) rfl), nW rfl rfl rfl rfl rfl rfl rfl rfl (by exact qX (uu rfl Tryd.runUnderlying9) rfl), nW rfl rfl rfl rfl rfl rfl rfl rfl (by exact qX (jk rfl rfl rfl) (congrArg Value.bool L9)), nQ rfl (by exact qX (pk rfl rfl rfl) rfl), nM rfl, nS rfl rfl rfl rfl rfl rfl rfl rfl rfl, nS rfl rfl rfl rfl rfl rfl rfl rfl rfl, nS rfl rfl rfl rfl rfl rfl rfl rfl rfl, nS rfl rfl rfl rfl rfl rfl rfl rfl rfl, nS rfl rfl rfl rfl rfl rfl rfl rfl rfl, nS rfl rfl rfl rfl rfl rfl rfl rfl rfl, nS rfl rfl rfl rfl rfl rfl rfl rfl rfl, nS rfl rfl rfl rfl rfl rfl rfl rfl rfl, nS rfl rfl rfl rfl rfl rfl rfl rfl rfl, nS rfl rfl rfl rfl rfl rfl rfl rfl rfl, nS rfl rfl rfl rfl rfl rfl rfl rfl rfl, nS rfl rfl rfl rfl rfl rfl rfl rfl rfl, nS rfl rfl rfl rfl rfl rfl rfl rfl rfl, nS rfl rfl rfl rfl rfl rfl rfl rfl rfl, nS rfl rfl rfl rfl rfl rfl rfl rfl rfl, nS rfl rfl rfl rfl rfl rfl rfl rfl rfl, nS rfl rfl rfl rfl rfl rfl rfl rfl rfl, nQ rfl (by exact qX (pk rfl rfl rfl) rfl), trivial⟩) fun a w hS => ?_
     replace hS := hS.env2 (e' := [(0, qL L3 0), (1, .int .i64 L1), (2, .int .i64 L0), (7, .int .i64 LY), (39, .bool false)]) ⟨rfl, rfl, rfl, rfl, rfl, trivial⟩
     refine qe ?_
     exact L8 _ _ ⟨false, hS.to [0, 1] (by kernel_rfl) ⟨rfl, rfl, rfl, rfl, rfl, trivial⟩, hM⟩
   ·refine za (vals := [some (.int .i64 LY), some (.bool false), some (.bool false), some (undef), some (undef), some (undef), some (undef), some (undef), some (undef), some (undef), some (undef), some (undef), some (.bool false), some (.bool false), some (undef), some (undef), some (undef), some (undef), some (undef), some (undef), some (undef), some (undef), some (undef), some (undef), some (undef), some (undef), some (undef), some (undef), some (undef), some (undef), some (undef), some (.bool false)]) hS xE rfl ?_
    intro l w ho hcl hA hst
    refine yk hA hst ho hcl xF [0, 1, 2, 3, 4, 5, 6, 7, 8, 9, 10, 11, 12, 13, 14, 15, 16, 17, 18, 19, 20, 21, 22, 23, 24, 25, 26, 27, 28, 29, 30, 31] rfl rfl rfl (by exact ⟨nM rfl, nQ rfl (by exact qX (jk rfl rfl rfl) (congrArg Value.bool L5)), nM rfl, nS rfl rfl rfl rfl rfl rfl rfl rfl rfl, nS rfl rfl rfl rfl rfl rfl rfl rfl rfl, nS rfl rfl rfl rfl rfl rfl rfl rfl rfl, nS rfl rfl rfl rfl rfl rfl rfl rfl rfl, nS rfl rfl rfl rfl rfl rfl rfl rfl rfl, nS rfl rfl rfl rfl rfl rfl rfl rfl rfl, nS rfl rfl rfl rfl rfl rfl rfl rfl rfl, nS rfl rfl rfl rfl rfl rfl rfl rfl rfl, nS rfl rfl rfl rfl rfl rfl rfl rfl rfl, nQ rfl (by exact qX (pk rfl rfl rfl) rfl), nM rfl, nS rfl rfl rfl rfl rfl rfl rfl rfl rfl, nS rfl rfl rfl rfl rfl rfl rfl rfl rfl, nS rfl rfl rfl rfl rfl rfl rfl rfl rfl, nS rfl rfl rfl rfl rfl rfl rfl rfl rfl, nS rfl rfl rfl rfl rfl rfl rfl rfl rfl, nS rfl rfl rfl rfl rfl rfl rfl rfl rfl, nS rfl rfl rfl rfl rfl rfl rfl rfl rfl, nS rfl rfl rfl rfl rfl rfl rfl rfl rfl, nS rfl rfl rfl rfl rfl rfl rfl rfl rfl, nS rfl rfl rfl rfl rfl rfl rfl rfl rfl, nS rfl rfl rfl rfl rfl rfl rfl rfl rfl, nS rfl rfl rfl rfl rfl rfl rfl rfl rfl, nS rfl rfl rfl rfl rfl rfl rfl rfl rfl, nS rfl rfl rfl rfl rfl rfl rfl rfl rfl, nS rfl rfl rfl rfl rfl rfl rfl rfl rfl, nS rfl rfl rfl rfl rfl rfl rfl rfl rfl, nS rfl rfl rfl rfl rfl rfl rfl rfl rfl, nQ rfl (by exact qX (pk rfl rfl rfl) rfl), trivial⟩) fun a w hS => ?_
    replace hS := hS.env2 (e' := [(0, qL L3 0), (1, .int .i64 L1), (2, .int .i64 L0), (7, .int .i64 LY), (39, .bool false)]) ⟨rfl, rfl, rfl, rfl, rfl, trivial⟩
    refine qe ?_
    exact L8 _ _ ⟨false, hS.to [0, 1] (by kernel_rfl) ⟨rfl, rfl, rfl, rfl, rfl, trivial⟩, hM⟩
  ·intro a w hI
   obtain ⟨Mb, hS, hM⟩ := hI
   rw [zA.j2] at hM
   refine qG hS rfl hM (fun Mf hM => ?_) (fun Mf hM => ?_)
   ·refine wp_skip ?_
    refine qe <| xO <| zN <| sM hS rfl fun hS => sB hS rfl fun hS => zE (v := Value.int .i64) (x0 := (qh (LY + (1 : Int)))) hS (xy rfl) rfl fun Mi a w hz hS => ?_
    have hM := qy hz hM; clear hz
    refine zp <| zy (qe ?_)
    exact Me _ _ ⟨Mi, hS.to [0, 1] (by kernel_rfl) ⟨rfl, rfl, rfl, rfl, trivial⟩, hM⟩
   ·refine wp_exit ?_
    refine qE (qE (ze (qe ?_)))
    refine qm <| sM hS rfl fun hS => sA hS rfl fun hS => qB <| wp_ret ?_
    exact zD (rs := [6]) hS rfl rfl (hret LY _ (q7 hM) (hS.st.pick [0, 1] (by kernel_rfl)))
theorem Qp {H : xR} {F : List qk} {w : World} {R : Ending → World → Prop} {kr : (Int × Int) → Prop} {kp : Value → Prop} (hG : Gl H) (K : Nat) (LZ : xn) (LY : Int) (L1 : Nat) (L8 : qk) (Ma : Nat) (L9 : qk) (Mc : xJ L8 L1 ([xf LZ.text_, .map (some Ma)]) 55) (Mh : Xp (Kj .u8) (Kk 3) 3 (ci .i64) 1 Ma LZ.seen_ L9)
    (hS : St w H [L8, L9] F) (hm : (zQ.m K LZ LY).wp kr kp)
    (hret : ∀ (Ml : Int) (Mf : Int) (w : World), kr (Ml, Mf) → St w H [L8, L9] F → R (.returned (.agg ⟨[.int .u8 (0 : Int), .int .i64 Ml, .int .i64 Mf]⟩)) w) :
    Calls Tryd.prog 26 ⟨[qL L1 0, .int .i64 LY]⟩ w R := by
 refine enter Tryd.func26 rfl Tryd.ntmps26 rfl hS fun a w hS => ?_
 have hM := hm; clear hm
 rw [zQ.m] at hM
 refine qm <| Qf ([.int .u8 (0 : Int), .int .i64 (0 : Int), .int .i64 (0 : Int)]) hS Tryd.zeroValue57 rfl rfl fun w Mq Mk Ms hS => qB <| qm <| Qf ([.int .u8 (0 : Int), .int .i64 (0 : Int), .int .i64 (0 : Int)]) hS Tryd.zeroValue57 rfl rfl fun w Me My Mt hS => qB <| wp_seq <| qm <| sM hS rfl fun hS => sB hS rfl fun hS => sM hS rfl fun hS => sO hS (yw rfl) rfl fun hS => sO hS (xv rfl Tryd.runUnderlying55 rfl Tryd.sizeOf9 rfl) rfl fun hS => sO hS (xY 2 rfl Mc rfl rfl Tryd.isAgg9) rfl fun hS => sO hS (uu rfl Tryd.runUnderlying9) rfl fun hS => sB hS rfl fun hS => qB <| qG hS rfl hM (fun ME hM => ?_) (fun ME hM => ?_)
 ·refine wp_seq ?_
  refine zN <| sO hS (ut 0 rfl Mt rfl ([.int .u8 (0 : Int), .int .i64 (0 : Int), .int .i64 (0 : Int)]) rfl rfl Tryd.isAgg57 Tryd.sizeOf57) rfl fun hS => Qs 1 ([.int .u8 (0 : Int), .int .i64 (0 : Int), .int .i64 (0 : Int)]) ([.int .u8 (0 : Int), .int .i64 (0 : Int), .int .i64 (0 : Int)]) hS rfl rfl Ms rfl rfl Tryd.sizeOf57 (by simp [Value.oneCell']) (Nat.le_of_ble_eq_true rfl) rfl fun w MM MA hS => qB <| wp_ret <| zm ?_
  exact jc (vs := [.agg ⟨[.int .u8 (0 : Int), .int .i64 (0 : Int), .int .i64 (0 : Int)]⟩]) hS rfl (by exact ⟨UE 1 ([.int .u8 (0 : Int), .int .i64 (0 : Int), .int .i64 (0 : Int)]) rfl MA rfl rfl rfl Tryd.isAgg57 Tryd.sizeOf57, trivial⟩) (hret (0 : Int) (0 : Int) _ (q7 hM) (hS.st.pick [2, 3] (by kernel_rfl)))
 ·refine wp_skip ?_
  refine qe <| wp_seq <| za (vals := [some (qL L1 0), some (qL L1 0), some (qL L1 1), some (.map (some Ma)), some (qL L1 0), some (.int .i64 LY), none, none, none]) hS xE rfl ?_
  intro l w ho hcl hA hst
  refine y9 hA hst ho hcl xx xF 6 [0, 1, 2, 3, 4, 5] rfl rfl rfl rfl rfl (by exact ⟨nM rfl, nQ rfl (by exact qX (yw rfl) rfl), nQ rfl (by exact qX (xv rfl Tryd.runUnderlying55 rfl Tryd.sizeOf53 rfl) rfl), nQ rfl (by exact qX (xY 2 rfl Mc rfl rfl Tryd.isAgg53) rfl), nM rfl, nM rfl, trivial⟩) fun D l a w ho hcl hav hpre hm hE hk hA hst => ?_
  have hS := (Ss.mk hE hst).env2 (e' := [(23, qL L1 0), (24, .int .i64 LY)]) ⟨rfl, rfl, trivial⟩
  refine qQ rfl <| qF hS rfl Tryd.call47 (vQ hG K LZ LY L1 L8 Ma L9 Mc Mh (hS.st.part 2 [2, 3, 0, 1] (by kernel_rfl)) (qs hM) (fun  w hM  hst => qA hS.ev hst.appF rfl fun hS => ?_))
  replace hS : Ss _ _ _ H [L8, L9, My, Mk] F _ _ := hS
  refine qB ?_
  replace hst := hS.st
  obtain ⟨hcl, hmust, hav2, hA⟩ := dn (vals' := [some (qL L1 0), some (qL L1 0), some (qL L1 1), some (.map (some Ma)), some (qL L1 0), some (.int .i64 LY), some (.agg ⟨([((rd LZ.text_ LY).toNat : Int), ((rd LZ.text_ (qh (LY + (1 : Int)))).toNat : Int), ((rd LZ.text_ (qh (LY + (2 : Int)))).toNat : Int)] : List Int).flatMap (ci .u8)⟩), none, none]) 6 [(4, 6), (5, 6)] hA hcl hav hm hpre hk rfl rfl rfl rfl rfl rfl rfl
  clear hm hav
  refine y9 hA hst ho hcl hav2 hmust 7 [0, 1, 2, 3] rfl rfl rfl rfl rfl (by exact ⟨nM rfl, nQ rfl (by exact qX (yw rfl) rfl), nQ rfl (by exact qX (xv rfl Tryd.runUnderlying55 rfl Tryd.sizeOf53 rfl) rfl), nQ rfl (by exact qX (xY 0 rfl Mc rfl rfl Tryd.isAgg53) rfl), trivial⟩) fun D l a w ho hcl hav hpre hm hE hk hA hst => ?_
  have hS := (Ss.mk hE hst).env2 (e' := [(22, .map (some Ma)), (25, .agg ⟨([((rd LZ.text_ LY).toNat : Int), ((rd LZ.text_ (qh (LY + (1 : Int)))).toNat : Int), ((rd LZ.text_ (qh (LY + (2 : Int)))).toNat : Int)] : List Int).flatMap (ci .u8)⟩)]) ⟨rfl, rfl, trivial⟩
  refine qQ rfl <| LJ (kv := Kj .u8) (ok := Kk 3) (E := 3) (g := (ci .i64)) (sz := 1) (q := ([((rd LZ.text_ LY).toNat : Int), ((rd LZ.text_ (qh (LY + (1 : Int)))).toNat : Int), ((rd LZ.text_ (qh (LY + (2 : Int)))).toNat : Int)] : List Int)) 1 hS rfl rfl rfl rfl Mh rfl (KQ Tryd.runUnderlying100 Tryd.runUnderlying5 Tryd.sizeOf5 Tryd.isAgg5) Tryd.runUnderlying53 Tryd.zeroValue66 (fun _ => rfl) rfl rfl fun L6 Mi Mj w hz Mx MJ hS => ?_
  have hM := qy hz hM; clear hz
  refine qB ?_
  replace hst := hS.st
  obtain ⟨hcl, hmust, hav2, hA⟩ := dn (vals' := [some (qL L1 0), some (qL L1 0), some (qL L1 1), some (.map (some Ma)), some (qL L1 0), some (.int .i64 LY), some (.agg ⟨([((rd LZ.text_ LY).toNat : Int), ((rd LZ.text_ (qh (LY + (1 : Int)))).toNat : Int), ((rd LZ.text_ (qh (LY + (2 : Int)))).toNat : Int)] : List Int).flatMap (ci .u8)⟩), some (.slice Mi L6.length Mj), some (.slice Mi L6.length Mj)]) 7 [(3, 7), (6, 7), (2, 3), (4, 6), (5, 6), (1, 2), (0, 1)] hA hcl hav hm hpre hk rfl rfl rfl rfl rfl rfl rfl
  clear hm hav
  refine yk hA hst ho hcl hmust [8] rfl rfl rfl (by exact ⟨nA rfl, trivial⟩) fun a w hS => ?_
  replace hS := hS.env2 (e' := [(0, qL L1 0), (1, .int .i64 LY), (4, qL Mq 0), (5, qL Me 0), (6, .slice Mi L6.length Mj)]) ⟨rfl, rfl, rfl, rfl, rfl, trivial⟩
  refine qe <| zj (fun a w => ∃ (L4 : Int) (L3 : Int) (Mr : qk), Ss 63 [] [(4, qL Mq 0), (5, qL Me 0)] H [L8, L9, Mk, Mr] F a w ∧ (xJ Mr Me ([.int .u8 (0 : Int), .int .i64 L4, .int .i64 L3]) 57) ∧ (zQ.j2 K L4 L3).wp kr kp) (fun ML Mv => ?_) ?_
  ·refine wp_seq ?_
   refine zN <| sA hS rfl fun hS => qB <| xO <| zu (fun Mz a w => ∃ (L7 : Int) (L5 : Int) (Mb : qk) (L0 : Int), Ss 63 [] [(0, qL L1 0), (1, .int .i64 LY), (4, qL Mq 0), (5, qL Me 0), (6, .slice Mi L6.length Mj), (7, .int .i64 L0)] H [L8, L9, Mk, Mb] F a w ∧ (xJ Mb Me ([.int .u8 (0 : Int), .int .i64 L7, .int .i64 L5]) 57) ∧ (zQ.l1 K LZ LY L6 Mz L7 L5 L0).wp kr kp) K ?_ ?_ ?_
   ·exact ⟨(0 : Int), (0 : Int), My, (0 : Int), hS.to [0, 1, 3, 2] (by kernel_rfl) ⟨rfl, rfl, rfl, rfl, rfl, rfl, trivial⟩, Mt, hM⟩
   ·intro a w hI; obtain ⟨_, _, _, _, _, _, hM⟩ := hI; exact zt hM
   ·intro Mz a w hI MK Mu
    obtain ⟨L7, L5, Mb, L0, hS, Md, hM⟩ := hI
    rw [zQ.l1] at hM
    refine wp_seq <| qm <| sM hS rfl fun hS => sB hS rfl fun hS => sM hS rfl fun hS => yS 4 true 29 (b := (decide (L0 < (32 : Int)))) (r := (decide (L0 < (L6.length : Int)))) hS rfl rfl rfl rfl rfl rfl rfl (fun hb a w hS K hK => ?_) rfl fun a w hS => ?_
    ·refine z2 hS rfl rfl rfl hb (mv rfl) rfl fun a w hS => ?_
     refine z2 hS rfl rfl rfl hb (mv rfl) rfl fun a w hS => z2 hS rfl rfl rfl hb (yj rfl Tryd.runUnderlying66) rfl fun a w hS => z2 hS rfl rfl rfl hb (jk rfl rfl rfl) rfl fun a w hS => ?_
     exact zp (hK _ _ (hS.up 4 rfl rfl))
    refine qB <| qG hS rfl hM (fun MF hM => ?_) (fun MF hM => ?_)
    ·refine wp_skip ?_
     refine qe <| wp_seq <| xO <| qm <| sM hS rfl fun hS => sM hS rfl fun hS => sO hS (yj rfl Tryd.runUnderlying66) rfl fun hS => sB hS rfl fun hS => sM hS rfl fun hS => sB hS rfl fun hS => ?_
     obtain ⟨Mw, hM⟩ := qK hM
     refine sO hS (yu rfl rfl Tryd.runUnderlying66 Tryd.sizeOf3 (Mx.rd (i := 1) rfl) (fun _ => rfl) rfl Mw) rfl fun hS => sO hS (yD rfl (Mx.rd (i := 1) rfl) (fun _ => rfl) Mw rfl Tryd.isAgg3) rfl fun hS => zE (v := Value.int .i64) (x0 := (rd L6 (qh ((qh ((L6.length : Int) - (1 : Int))) - L0)))) hS (xy rfl) rfl fun Mg a w hz hS => ?_
     have hM := qy hz hM; clear hz
     refine qB <| wp_seq <| qm <| sM hS rfl fun hS => sM hS rfl fun hS => sB hS rfl fun hS => sB hS rfl fun hS => qB <| qG hS rfl hM (fun MG hM => ?_) (fun MG hM => ?_)
     ·refine wp_exit ?_
      refine qE (Kv rfl (qE (qE (ze (qe ?_)))))
      exact Mv _ _ ⟨L7, L5, Mb, hS.to [0, 1, 2, 3] (by kernel_rfl) ⟨rfl, rfl, trivial⟩, Md, hM⟩
     ·refine wp_skip ?_
      refine qe <| qm <| sM hS rfl fun hS => sM hS rfl fun hS => sM hS rfl fun hS => qF hS rfl Tryd.call48 (Qq hG K LZ Mg LY L1 L8 Ma L9 Mc Mh (hS.st.part 2 [0, 1, 2, 3] (by kernel_rfl)) (qs hM) (fun Mm w hM  hst => qA hS.ev hst.appF rfl fun hS => ?_))
      replace hS : Ss _ _ _ H [L8, L9, Mk, Mb] F _ _ := hS
      refine sA hS rfl fun hS => qB <| qm <| sM hS rfl fun hS => sO hS (xv rfl Tryd.runUnderlying57 rfl Tryd.sizeOf3 rfl) rfl fun hS => sO hS (xY 3 rfl Md rfl rfl Tryd.isAgg3) rfl fun hS => sB hS rfl fun hS => qB <| qG hS rfl hM (fun MH hM => ?_) (fun MH hM => ?_)
      ·refine zN ?_
       refine sM hS rfl fun hS => sM hS rfl fun hS => sM hS rfl fun hS => sB hS rfl fun hS => sO hS (Z9 ([.int .u8 (0 : Int), .int .i64 Mm, .int .i64 (qh (LY - Mg))]) [(0, 1), (1, 1), (2, 1)] Tryd.zeroValue57 Tryd.runUnderlying57 (by intro w; simp [Tryd.sizeOf3, Tryd.sizeOf5]) rfl rfl) rfl fun hS => Qs 3 ([.int .u8 (0 : Int), .int .i64 Mm, .int .i64 (qh (LY - Mg))]) ([.int .u8 (0 : Int), .int .i64 Mm, .int .i64 (qh (LY - Mg))]) hS rfl rfl Md rfl rfl Tryd.sizeOf57 (by simp [Value.oneCell']) (Nat.le_of_ble_eq_true rfl) rfl fun w MI MB hS => zp <| zy (qe ?_)
       refine zN <| sM hS rfl fun hS => sB hS rfl fun hS => zE (v := Value.int .i64) (x0 := (qh (L0 + (1 : Int)))) hS (xy rfl) rfl fun Mn a w hz hS => ?_
       have hM := qy hz hM; clear hz
       refine zp <| qe ?_
       exact Mu _ _ ⟨Mm, (qh (LY - Mg)), MI, Mn, hS.to [0, 1, 2, 3] (by kernel_rfl) ⟨rfl, rfl, rfl, rfl, rfl, rfl, trivial⟩, MB, hM⟩
      ·refine wp_skip ?_
       refine zy (qe ?_)
       refine zN <| sM hS rfl fun hS => sB hS rfl fun hS => zE (v := Value.int .i64) (x0 := (qh (L0 + (1 : Int)))) hS (xy rfl) rfl fun Mp a w hz hS => ?_
       have hM := qy hz hM; clear hz
       refine zp <| qe ?_
       exact Mu _ _ ⟨L7, L5, Mb, Mp, hS.to [0, 1, 2, 3] (by kernel_rfl) ⟨rfl, rfl, rfl, rfl, rfl, rfl, trivial⟩, Md, hM⟩
    ·refine wp_exit ?_
     refine qE (qE (ze (qe ?_)))
     exact Mv _ _ ⟨L7, L5, Mb, hS.to [0, 1, 2, 3] (by kernel_rfl) ⟨rfl, rfl, trivial⟩, Md, hM⟩
  ·intro a w hI
   obtain ⟨L4, L3, Mr, hS, MC, hM⟩ := hI
   rw [zQ.j2] at hM
   refine qm <| sO hS (ut 3 rfl MC rfl ([.int .u8 (0 : Int), .int .i64 L4, .int .i64 L3]) rfl rfl Tryd.isAgg57 Tryd.sizeOf57) rfl fun hS => Qs 2 ([.int .u8 (0 : Int), .int .i64 L4, .int .i64 L3]) ([.int .u8 (0 : Int), .int .i64 L4, .int .i64 L3]) hS rfl rfl Ms rfl rfl Tryd.sizeOf57 (by simp [Value.oneCell']) (Nat.le_of_ble_eq_true rfl) rfl fun w MN MD hS => qB <| wp_ret ?_
   exact jc (vs := [.agg ⟨[.int .u8 (0 : Int), .int .i64 L4, .int .i64 L3]⟩]) hS rfl (by exact ⟨UE 2 ([.int .u8 (0 : Int), .int .i64 L4, .int .i64 L3]) rfl MD rfl rfl rfl Tryd.isAgg57 Tryd.sizeOf57, trivial⟩) (hret L4 L3 _ (q7 hM) (hS.st.pick [0, 1] (by kernel_rfl)))
theorem Qr {H : xR} {F : List qk} {w : World} {R : Ending → World → Prop} {kr : (List ((List Int) × (List Int))) → Prop} {kp : Value → Prop} (hG : Gl H) (K : Nat) (LY : xn) (LZ : Int) (L0 : Nat) (Mb : qk) (L1 : Nat) (Mc : qk) (L7 : xJ Mb L0 ([xf LY.text_, .map (some L1)]) 55) (Me : Xp (Kj .u8) (Kk 3) 3 (ci .i64) 1 L1 LY.seen_ Mc)
    (hS : St w H [Mb, Mc] F) (hm : (yC.m K LY LZ).wp kr kp)
    (hret : ∀ (Md : (List ((List Int) × (List Int)))) (Mi : qk) (w : World), kr Md → (Xp (Kj .u8) (Kk 3) 3 (ci .i64) 1 L1 Md Mi) → St w H [Mb, Mi] F → R (.returned (.tuple ⟨[]⟩)) w) :
    Calls Tryd.prog 27 ⟨[qL L0 0, .int .i64 LZ]⟩ w R := by
 refine enter Tryd.func27 rfl Tryd.ntmps27 rfl hS fun a w hS => ?_
 have hM := hm; clear hm
 rw [yC.m] at hM
 refine qm <| sM hS rfl fun hS => sB hS rfl fun hS => sM hS rfl fun hS => sO hS (yw rfl) rfl fun hS => sO hS (xv rfl Tryd.runUnderlying55 rfl Tryd.sizeOf9 rfl) rfl fun hS => sO hS (xY 0 rfl L7 rfl rfl Tryd.isAgg9) rfl fun hS => sO hS (uu rfl Tryd.runUnderlying9) rfl fun hS => sB hS rfl fun hS => qB <| qG hS rfl hM (fun Mq hM => ?_) (fun Mq hM => ?_)
 ·refine wp_seq ?_
  refine zN <| sM hS rfl fun hS => sM hS rfl fun hS => qF hS rfl Tryd.call47 (vQ hG K LY LZ L0 Mb L1 Mc L7 Me (hS.st.part 2 [0, 1] (by kernel_rfl)) (qs hM) (fun  w hM  hst => qA hS.ev hst.appF rfl fun hS => ?_))
  replace hS : Ss _ _ _ H [Mb, Mc] F _ _ := hS
  refine Qf ((List.replicate 3 (0 : Int)).flatMap (ci .u8)) hS Tryd.zeroValue100 rfl rfl fun w Ms Mw Mj hS => Yi (xs := (List.replicate 3 (0 : Int))) (ys := ([((rd LY.text_ LZ).toNat : Int), ((rd LY.text_ (qh (LZ + (1 : Int)))).toNat : Int), ((rd LY.text_ (qh (LZ + (2 : Int)))).toNat : Int)] : List Int)) (g := (ci .u8)) (pre := []) (post := []) 0 hS rfl rfl Mj rfl (by simp) rfl (xg (g := (ci .u8)) (sz := 1) (fun _ => rfl) (List.length_replicate ..)) (xg (g := (ci .u8)) (sz := 1) (fun _ => rfl) rfl) (u3) Tryd.sizeOf100 fun w Mt L8 hS => ?_
  replace L8 : xJ Mt Ms (([((rd LY.text_ LZ).toNat : Int), ((rd LY.text_ (qh (LZ + (1 : Int)))).toNat : Int), ((rd LY.text_ (qh (LZ + (2 : Int)))).toNat : Int)] : List Int).flatMap (ci .u8)) 100 := by simpa using L8
  refine qB <| za (vals := [some (qL L0 0), some (qL L0 0), some (qL L0 1), some (.map (some L1)), some (.agg ⟨([((rd LY.text_ LZ).toNat : Int), ((rd LY.text_ (qh (LZ + (1 : Int)))).toNat : Int), ((rd LY.text_ (qh (LZ + (2 : Int)))).toNat : Int)] : List Int).flatMap (ci .u8)⟩), some (.int .i64 LZ), none, none, none, none, none, none]) hS xE rfl ?_
  intro l w ho hcl hA hst
  refine y9 hA hst ho hcl xx xF 6 [0, 1, 2, 3, 4, 5] rfl rfl rfl rfl rfl (by exact ⟨nM rfl, nQ rfl (by exact qX (yw rfl) rfl), nQ rfl (by exact qX (xv rfl Tryd.runUnderlying55 rfl Tryd.sizeOf53 rfl) rfl), nQ rfl (by exact qX (xY 1 rfl L7 rfl rfl Tryd.isAgg53) rfl), nQ rfl (by exact qX (Yg (xs := ([((rd LY.text_ LZ).toNat : Int), ((rd LY.text_ (qh (LZ + (1 : Int)))).toNat : Int), ((rd LY.text_ (qh (LZ + (2 : Int)))).toNat : Int)] : List Int)) (g := (ci .u8)) (pre := []) (post := []) 0 rfl L8 rfl (by simp) rfl (xg (g := (ci .u8)) (sz := 1) (fun _ => rfl) rfl) Tryd.isAgg100 Tryd.sizeOf100) rfl), nM rfl, trivial⟩) fun D l a w ho hcl hav hpre hm hE hk hA hst => ?_
  have hS := (Ss.mk hE hst).env2 (e' := [(22, .int .i64 LZ)]) ⟨rfl, trivial⟩
  refine qQ rfl <| Y3 (g := (ci .i64)) ([LZ] : List Int) [.int .i64 LZ] hS Tryd.runUnderlying66 Tryd.sizeOf3 X.el3 rfl rfl rfl (by simp [Value.cells]) rfl rfl rfl rfl rfl fun w L9 Ma Mx Mm hS => qB ?_
  replace hst := hS.st
  obtain ⟨hcl, hmust, hav2, hA⟩ := dn (vals' := [some (qL L0 0), some (qL L0 0), some (qL L0 1), some (.map (some L1)), some (.agg ⟨([((rd LY.text_ LZ).toNat : Int), ((rd LY.text_ (qh (LZ + (1 : Int)))).toNat : Int), ((rd LY.text_ (qh (LZ + (2 : Int)))).toNat : Int)] : List Int).flatMap (ci .u8)⟩), some (.int .i64 LZ), some (.slice L9 ([LZ] : List Int).length Ma), none, none, none, none, none]) 6 [(5, 6)] hA hcl hav hm hpre hk rfl rfl rfl rfl rfl rfl rfl
  clear hm hav
  refine y9 hA hst ho hcl hav2 hmust 7 [0, 1, 2, 3, 4] rfl rfl rfl rfl rfl (by exact ⟨nM rfl, nQ rfl (by exact qX (yw rfl) rfl), nQ rfl (by exact qX (xv rfl Tryd.runUnderlying55 rfl Tryd.sizeOf53 rfl) rfl), nQ rfl (by exact qX (xY 2 rfl L7 rfl rfl Tryd.isAgg53) rfl), nQ rfl (by exact qX (Yg (xs := ([((rd LY.text_ LZ).toNat : Int), ((rd LY.text_ (qh (LZ + (1 : Int)))).toNat : Int), ((rd LY.text_ (qh (LZ + (2 : Int)))).toNat : Int)] : List Int)) (g := (ci .u8)) (pre := []) (post := []) 1 rfl L8 rfl (by simp) rfl (xg (g := (ci .u8)) (sz := 1) (fun _ => rfl) rfl) Tryd.isAgg100 Tryd.sizeOf100) rfl), trivial⟩) fun D l a w ho hcl hav hpre hm hE hk hA hst => ?_
  have hS := (Ss.mk hE hst).env2 (e' := [(19, .map (some L1)), (20, .agg ⟨([((rd LY.text_ LZ).toNat : Int), ((rd LY.text_ (qh (LZ + (1 : Int)))).toNat : Int), ((rd LY.text_ (qh (LZ + (2 : Int)))).toNat : Int)] : List Int).flatMap (ci .u8)⟩)]) ⟨rfl, rfl, trivial⟩
  refine qQ rfl ?_
  replace hS := hS.front [3, 0, 1, 2] (by kernel_rfl)
  refine LK (kv := Kj .u8) (ok := Kk 3) (E := 3) (g := (ci .i64)) (sz := 1) (q := ([((rd LY.text_ LZ).toNat : Int), ((rd LY.text_ (qh (LZ + (1 : Int)))).toNat : Int), ((rd LY.text_ (qh (LZ + (2 : Int)))).toNat : Int)] : List Int)) hS rfl rfl rfl rfl Me (KQ Tryd.runUnderlying100 Tryd.runUnderlying5 Tryd.sizeOf5 Tryd.isAgg5) Tryd.runUnderlying53 Tryd.zeroValue66 rfl fun L3 w L4 L5 L6 My Mz hz Mn Mk hS => ?_
  have hM := qy hz hM; clear hz
  refine qB ?_
  replace hst := hS.st
  obtain ⟨hcl, hmust, hav2, hA⟩ := dn (vals' := [some (qL L0 0), some (qL L0 0), some (qL L0 1), some (.map (some L1)), some (.agg ⟨([((rd LY.text_ LZ).toNat : Int), ((rd LY.text_ (qh (LZ + (1 : Int)))).toNat : Int), ((rd LY.text_ (qh (LZ + (2 : Int)))).toNat : Int)] : List Int).flatMap (ci .u8)⟩), some (.int .i64 LZ), some (.slice L9 ([LZ] : List Int).length Ma), some (.tuple ⟨[.slice L4 L3.length L5, .int .i64 ((L6 : Nat) : Int)]⟩), some (.slice L4 L3.length L5), none, some (.int .i64 ((L6 : Nat) : Int)), none]) 7 [(0, 7), (1, 7), (2, 7), (3, 7), (4, 7), (5, 7), (6, 7)] hA hcl hav hm hpre hk rfl rfl rfl rfl rfl rfl rfl
  clear hm hav
  refine y9 hA hst ho hcl hav2 hmust 9 [8, 10] rfl rfl rfl rfl rfl (by exact ⟨nQ rfl (by exact qX (ex rfl rfl) rfl), nQ rfl (by exact qX (ex rfl rfl) rfl), trivial⟩) fun D l a w ho hcl hav hpre hm hE hk hA hst => ?_
  have hS := (Ss.mk hE hst).env2 (e' := [(21, .slice L4 L3.length L5), (23, .slice L9 ([LZ] : List Int).length Ma)]) ⟨rfl, rfl, trivial⟩
  refine qQ rfl ?_
  obtain ⟨Mr, hM⟩ := qK hM
  refine JA (ys := ([LZ] : List Int)) 0 hS rfl rfl Mn rfl (Mm.rd (i := 2) rfl) Tryd.runUnderlying66 Tryd.runUnderlying66 X.el3 (fun _ => rfl) rfl xH Mr rfl fun Mf w Mg Mh MA hz Mp hS => ?_
  have hM := qy hz hM; clear hz
  refine qB ?_
  replace hst := hS.st
  obtain ⟨hcl, hmust, hav2, hA⟩ := dn (vals' := [some (qL L0 0), some (qL L0 0), some (qL L0 1), some (.map (some L1)), some (.agg ⟨([((rd LY.text_ LZ).toNat : Int), ((rd LY.text_ (qh (LZ + (1 : Int)))).toNat : Int), ((rd LY.text_ (qh (LZ + (2 : Int)))).toNat : Int)] : List Int).flatMap (ci .u8)⟩), some (.int .i64 LZ), some (.slice L9 ([LZ] : List Int).length Ma), some (.tuple ⟨[.slice L4 L3.length L5, .int .i64 ((L6 : Nat) : Int)]⟩), some (.slice L4 L3.length L5), some (.slice Mg Mf.length Mh), some (.int .i64 ((L6 : Nat) : Int)), none]) 9 [(6, 9), (7, 9), (8, 9), (5, 6), (0, 7), (1, 7), (2, 7), (3, 7), (4, 7)] hA hcl hav hm hpre hk rfl rfl rfl rfl rfl rfl rfl
  clear hm hav
  refine y9 hA hst ho hcl hav2 hmust 11 [10] rfl rfl rfl rfl rfl (by exact ⟨nQ rfl (by exact qX (ex rfl rfl) rfl), trivial⟩) fun D l a w ho hcl hav hpre hm hE hk hA hst => ?_
  have hS := (Ss.mk hE hst).env2 (e' := [(19, .map (some L1)), (25, .slice Mg Mf.length Mh), (26, .int .i64 ((L6 : Nat) : Int))]) ⟨rfl, rfl, rfl, trivial⟩
  refine qQ rfl ?_
  replace hS := hS.front [0, 1, 2, 3, 4] (by kernel_rfl)
  refine LE (kv := Kj .u8) (ok := Kk 3) (E := 3) (g := (ci .i64)) (sz := 1) hS rfl rfl rfl Mp Mk fun Mv w Mu hz Ml hS => ?_
  have hM := qy hz hM; clear hz
  refine qB ?_
  replace hst := hS.st
  obtain ⟨hcl, hmust, hav2, hA⟩ := Xx (vals' := [some (qL L0 0), some (qL L0 0), some (qL L0 1), some (.map (some L1)), some (.agg ⟨([((rd LY.text_ LZ).toNat : Int), ((rd LY.text_ (qh (LZ + (1 : Int)))).toNat : Int), ((rd LY.text_ (qh (LZ + (2 : Int)))).toNat : Int)] : List Int).flatMap (ci .u8)⟩), some (.int .i64 LZ), some (.slice L9 ([LZ] : List Int).length Ma), some (.tuple ⟨[.slice L4 L3.length L5, .int .i64 ((L6 : Nat) : Int)]⟩), some (.slice L4 L3.length L5), some (.slice Mg Mf.length Mh), some (.int .i64 ((L6 : Nat) : Int)), some undef]) 11 [(0, 11), (1, 11), (2, 11), (3, 11), (4, 11), (5, 11), (6, 11), (7, 11), (8, 11), (9, 11), (10, 11)] hA hcl hav hm hpre rfl rfl rfl rfl rfl
  clear hm hav
  refine yk hA hst ho hcl hmust [] rfl rfl rfl trivial fun a w hS => ?_
  replace hS := hS.env2 (e' := []) trivial
  exact jE (rs := []) hS rfl rfl (hret Mv Mu _ (q7 hM) Ml (hS.st.pick [3, 0] (by kernel_rfl)))
 ·refine wp_skip ?_
  exact jE (rs := []) hS rfl rfl (hret LY.seen_ Mc _ (q7 hM) Me (hS.st.pick [0, 1] (by kernel_rfl)))
theorem Jl {H : xR} {F : List qk} {w : World} {R : Ending → World → Prop} {kr : (List qM) → Prop} {kp : Value → Prop} (hG : Gl H) (K : Nat) (LY : List UInt8)
    (hS : St w H [] F) (hm : (zV.m K LY).wp kr kp)
    (hret : ∀ (My : Option Addr) (MB : Nat) (Mw : (List qM)) (MD : qk) (w : World), kr Mw → (xi 57 qM.cells 3 My Mw MB MD) → St w H [MD] F → R (.returned (.slice My Mw.length MB)) w) :
    Calls Tryd.prog 14 ⟨[xf LY]⟩ w R := by
 refine enter Tryd.func14 rfl Tryd.ntmps14 rfl hS fun a w hS => ?_
 have hM := hm; clear hm
 rw [zV.m] at hM
 refine qm <| sA hS rfl fun hS => ?_
 obtain ⟨M6, MY, hS⟩ := hS.nilV 57 qM.cells 3
 refine qB <| qm <| sM hS rfl fun hS => LL (kv := Kj .u8) (ok := Kk 3) (E := 3) (g := (ci .i64)) (sz := 1) hS rfl fun w Ma MS MJ hS => sO hS (Z9 ([xf LY, .map (some Ma)]) [(0, 1), (1, 1)] Tryd.zeroValue55 Tryd.runUnderlying55 (by intro w; simp [Tryd.sizeOf53, Tryd.sizeOf9]) rfl rfl) rfl fun hS => bx ([xf LY, .map (some Ma)]) hS rfl rfl rfl fun w Mf L8 Mp hS => sA hS rfl fun hS => qB <| qm <| sA hS rfl fun hS => ?_
 obtain ⟨MT, MK, hS⟩ := hS.nilV 57 qM.cells 3
 refine qB <| wp_seq <| qm <| sA hS rfl fun hS => qB <| xO <| zu (fun Mk a w => ∃ (L1 : (List ((List Int) × (List Int)))) (L9 : qk) (Me : Option Addr) (Mg : Nat) (L6 : (List qM)) (Mb : qk) (L4 : Int), Ss 41 [] [(0, xf LY), (3, qL Mf 0), (4, .slice Me L6.length Mg), (5, .int .i64 L4)] H [L8, L9, Mb] F a w ∧ (Xp (Kj .u8) (Kk 3) 3 (ci .i64) 1 Ma L1 L9) ∧ (xi 57 qM.cells 3 Me L6 Mg Mb) ∧ (zV.l1 K LY Mk L1 L6 L4).wp kr kp) K ?_ ?_ ?_
 ·exact ⟨([] : List ((List Int) × (List Int))), MS, none, 0, ([] : List qM), MT, (0 : Int), hS.to [1, 2, 0] (by kernel_rfl) ⟨rfl, rfl, rfl, rfl, trivial⟩, MJ, MK, hM⟩
 ·intro a w hI; obtain ⟨_, _, _, _, _, _, _, _, _, _, hM⟩ := hI; exact zt hM
 ·intro Mk a w hI M4 MI
  obtain ⟨L1, L9, Me, Mg, L6, Mb, L4, hS, Ms, Mu, hM⟩ := hI
  rw [zV.l1] at hM
  refine wp_seq <| qm <| sM hS rfl fun hS => sM hS rfl fun hS => sO hS (uu rfl Tryd.runUnderlying9) rfl fun hS => sB hS rfl fun hS => qB <| qG hS rfl hM (fun MN hM => ?_) (fun MN hM => ?_)
  ·refine wp_skip ?_
   refine qe <| xO <| qm <| sM hS rfl fun hS => sM hS rfl fun hS => qF hS rfl Tryd.call26 (Qp hG K (xn.mk LY L1) L4 Mf L8 Ma L9 Mp Ms (hS.st.part 2 [0, 1, 2] (by kernel_rfl)) (qs hM) (fun Md L7 w hM  hst => qA hS.ev hst.appF rfl fun hS => ?_))
   replace hS : Ss _ _ _ H [L8, L9, Mb] F _ _ := hS
   refine Qf ([.int .u8 (0 : Int), .int .i64 (0 : Int), .int .i64 (0 : Int)]) hS Tryd.zeroValue57 rfl rfl fun w Mz M7 MF hS => Qs 0 ([.int .u8 (0 : Int), .int .i64 Md, .int .i64 L7]) ([.int .u8 (0 : Int), .int .i64 Md, .int .i64 L7]) hS rfl rfl MF rfl rfl Tryd.sizeOf57 (by simp [Value.oneCell']) (Nat.le_of_ble_eq_true rfl) rfl fun w MU Mi hS => qB <| zj (fun a w => ∃ (L3 : Int) (LZ : Int) (L0 : Int) (Mm : qk), Ss 41 [] [(0, xf LY), (3, qL Mf 0), (4, .slice Me L6.length Mg), (5, .int .i64 L4), (6, qL Mz 0)] H [L8, L9, Mb, Mm] F a w ∧ (xJ Mm Mz ([.int .u8 L3, .int .i64 LZ, .int .i64 L0]) 57) ∧ (zV.j2 K (zV.l1 K LY Mk) LY L1 L6 L4 L3 LZ L0).wp kr kp) (fun M0 Mr => ?_) ?_
   ·refine wp_seq ?_
    refine zN <| sO hS (xv rfl Tryd.runUnderlying57 rfl Tryd.sizeOf3 rfl) rfl fun hS => sO hS (xY 0 rfl Mi rfl rfl Tryd.isAgg3) rfl fun hS => sB hS rfl fun hS => qB <| qG hS rfl hM (fun MO hM => ?_) (fun MO hM => ?_)
    ·refine zN ?_
     refine sM hS rfl fun hS => sM hS rfl fun hS => ?_
     obtain ⟨MQ, hM⟩ := qK hM
     refine sO hS (VQ rfl rfl Tryd.runUnderlying9 MQ) rfl fun hS => sO hS (Z9 ([.int .u8 ((rd LY L4).toNat : Int), .int .i64 (0 : Int), .int .i64 (0 : Int)]) [(0, 1), (1, 1), (2, 1)] Tryd.zeroValue57 Tryd.runUnderlying57 (by intro w; simp [Tryd.sizeOf3, Tryd.sizeOf5]) rfl rfl) rfl fun hS => Qs 0 ([.int .u8 ((rd LY L4).toNat : Int), .int .i64 (0 : Int), .int .i64 (0 : Int)]) ([.int .u8 ((rd LY L4).toNat : Int), .int .i64 (0 : Int), .int .i64 (0 : Int)]) hS rfl rfl Mi rfl rfl Tryd.sizeOf57 (by simp [Value.oneCell']) (Nat.le_of_ble_eq_true rfl) rfl fun w MV MG hS => zp <| qe ?_
     exact Mr _ _ ⟨((rd LY L4).toNat : Int), (0 : Int), (0 : Int), MV, hS.to [1, 2, 3, 0] (by kernel_rfl) ⟨rfl, rfl, rfl, rfl, rfl, trivial⟩, MG, hM⟩
    ·refine wp_skip ?_
     refine qe ?_
     exact Mr _ _ ⟨(0 : Int), Md, L7, MU, hS.to [1, 2, 3, 0] (by kernel_rfl) ⟨rfl, rfl, rfl, rfl, rfl, trivial⟩, Mi, hM⟩
   ·intro a w hI
    obtain ⟨L3, LZ, L0, Mm, hS, Mq, hM⟩ := hI
    rw [zV.j2] at hM
    refine qm <| sM hS rfl fun hS => sO hS (ut 3 rfl Mq rfl ([.int .u8 L3, .int .i64 LZ, .int .i64 L0]) rfl rfl Tryd.isAgg57 Tryd.sizeOf57) rfl fun hS => Y3 (g := qM.cells) ([(qM.mk L3 LZ L0)] : List qM) [.agg ⟨[.int .u8 L3, .int .i64 LZ, .int .i64 L0]⟩] hS Tryd.runUnderlying37 Tryd.sizeOf57 X.el57 rfl rfl rfl (by simp [Value.cells]) rfl rfl rfl rfl rfl fun w MZ M5 M8 ML hS => ?_
    obtain ⟨MR, hM⟩ := qK hM
    refine JA (ys := ([(qM.mk L3 LZ L0)] : List qM)) 3 hS rfl rfl Mu rfl (ML.rd (i := 0) rfl) Tryd.runUnderlying37 Tryd.runUnderlying37 X.el57 (fun _ => rfl) rfl B9 MR rfl fun Mj w Mx MA Mn hz MM hS => ?_
    have hM := qy hz hM; clear hz
    refine sA hS rfl fun hS => qB <| qm <| sO hS (xv rfl Tryd.runUnderlying57 rfl Tryd.sizeOf3 rfl) rfl fun hS => sO hS (xY 4 rfl Mq rfl rfl Tryd.isAgg3) rfl fun hS => sO hS (B3 rfl rfl) rfl fun hS => sM hS rfl fun hS => qB <| xO <| zu (fun ME a w => ∃ (L5 : (List ((List Int) × (List Int)))) (Mh : qk) (Mc : Int) (Ml : Int), Ss 41 [] [(0, xf LY), (3, qL Mf 0), (4, .slice Mx Mj.length MA), (5, .int .i64 Mc), (31, .int .i64 (if LZ > (1 : Int) then LZ else (1 : Int))), (32, .int .i64 Ml)] H [L8, Mh, Mn] F a w ∧ (Xp (Kj .u8) (Kk 3) 3 (ci .i64) 1 Ma L5 Mh) ∧ (zV.l3 K (zV.l1 K LY Mk) LY LZ Mj ME L5 Mc Ml).wp kr kp) K ?_ ?_ ?_
    ·exact ⟨L1, L9, L4, (0 : Int), hS.to [1, 2, 3] (by kernel_rfl) ⟨rfl, rfl, rfl, rfl, rfl, rfl, trivial⟩, Ms, hM⟩
    ·intro a w hI; obtain ⟨_, _, _, _, _, _, hM⟩ := hI; exact zt hM
    ·intro ME a w hI M3 MH
     obtain ⟨L5, Mh, Mc, Ml, hS, Mt, hM⟩ := hI
     rw [zV.l3] at hM
     refine qm <| sB hS rfl fun hS => qB <| wp_seq <| qG hS rfl hM (fun MP hM => ?_) (fun MP hM => ?_)
     ·refine wp_skip ?_
      refine qe <| wp_seq <| xO <| qm <| sM hS rfl fun hS => sM hS rfl fun hS => qF hS rfl Tryd.call27 (Qr hG K (xn.mk LY L5) Mc Mf L8 Ma Mh Mp Mt (hS.st.part 2 [0, 1, 2] (by kernel_rfl)) (qs hM) (fun Mv MC w hM MW hst => qA hS.ev hst.appF rfl fun hS => ?_))
      replace hS : Ss _ _ _ H [L8, MC, Mn] F _ _ := hS
      refine qB <| zN <| sM hS rfl fun hS => sB hS rfl fun hS => zE (v := Value.int .i64) (x0 := (qh (Mc + (1 : Int)))) hS (xy rfl) rfl fun MX a w hz hS => ?_
      have hM := qy hz hM; clear hz
      refine zp <| zy (qe ?_)
      refine zN <| sB hS rfl fun hS => sM hS rfl fun hS => zp <| qe ?_
      exact MH _ _ ⟨Mv, MC, MX, (qh (Ml + (1 : Int))), hS.to [0, 1, 2] (by kernel_rfl) ⟨rfl, rfl, rfl, rfl, rfl, rfl, trivial⟩, MW, hM⟩
     ·refine wp_exit ?_
      refine qE (qE (ze (zy (qe ?_))))
      exact MI _ _ ⟨L5, Mh, Mx, MA, Mj, Mn, Mc, hS.to [0, 1, 2] (by kernel_rfl) ⟨rfl, rfl, rfl, rfl, trivial⟩, Mt, MM, hM⟩
  ·refine wp_exit ?_
   refine qE (qE (ze (qe ?_)))
   refine qm <| sM hS rfl fun hS => sA hS rfl fun hS => qB <| wp_ret ?_
   exact zD (rs := [2]) hS rfl rfl (hret Me Mg L6 Mb _ (q7 hM) Mu (hS.st.pick [2] (by kernel_rfl)))
theorem Zh {H : xR} {F : List qk} {w : World} {R : Ending → World → Prop} {kr : (List UInt8) → Prop} {kp : Value → Prop} (hG : Gl H) (K : Nat) (L9 : List UInt8)
    (hS : St w H [] F) (hm : (zU.m K L9).wp kr kp)
    (hret : ∀ (Mb : List UInt8) (w : World), kr Mb → St w H [] F → R (.returned (xf Mb)) w) :
    Calls Tryd.prog 15 ⟨[xf L9]⟩ w R := by
 refine enter Tryd.func15 rfl Tryd.ntmps15 rfl hS fun a w hS => ?_
 have hM := hm; clear hm
 rw [zU.m] at hM
 refine qm <| sA hS rfl fun hS => qB <| qm <| sA hS rfl fun hS => ?_
 obtain ⟨Mq, Md, hS⟩ := hS.nilV 5 (ci .u8) 1
 refine qB <| xO <| zu (fun L8 a w => ∃ (L0 : List UInt8) (L3 : Option Addr) (L4 : Nat) (L1 : (List Int)) (L5 : qk), Ss 41 [] [(0, xf L0), (3, .slice L3 L1.length L4)] H [L5] F a w ∧ (xi 5 (ci .u8) 1 L3 L1 L4 L5) ∧ (zU.l1 K L8 L0 L1).wp kr kp) K ?_ ?_ ?_
 ·exact ⟨L9, none, 0, ([] : List Int), Mq, hS.to [0] (by kernel_rfl) ⟨rfl, rfl, trivial⟩, Md, hM⟩
 ·intro a w hI; obtain ⟨_, _, _, _, _, _, _, hM⟩ := hI; exact zt hM
 ·intro L8 a w hI My Mc
  obtain ⟨L0, L3, L4, L1, L5, hS, Me, hM⟩ := hI
  rw [zU.l1] at hM
  refine xO <| qm <| sM hS rfl fun hS => sO hS (uu rfl Tryd.runUnderlying9) rfl fun hS => sO hS (VS rfl rfl) rfl fun hS => zE (v := Value.int .i64) (x0 := (if (L0.length : Int) < (65535 : Int) then (L0.length : Int) else (65535 : Int))) hS (xy rfl) rfl fun LY a w hz hS => ?_
  have hM := qy hz hM; clear hz
  refine qB <| qm <| sA hS rfl fun hS => qB <| zj (fun a w => ∃ (LZ : Int), Ss 41 [] [(0, xf L0), (3, .slice L3 L1.length L4), (4, .int .i64 LY), (5, .int .u8 LZ)] H [L5] F a w ∧ (zU.j2 K (zU.l1 K L8) L0 L1 LY LZ).wp kr kp) (fun Mx L6 => ?_) ?_
  ·refine wp_seq ?_
   refine zN <| sM hS rfl fun hS => sM hS rfl fun hS => sO hS (uu rfl Tryd.runUnderlying9) rfl fun hS => sB hS rfl fun hS => qB <| qG hS rfl hM (fun Mh hM => ?_) (fun Mh hM => ?_)
   ·refine zN ?_
    refine sA hS rfl fun hS => zp <| qe ?_
    exact L6 _ _ ⟨(1 : Int), hS.to [0] (by kernel_rfl) ⟨rfl, rfl, rfl, rfl, trivial⟩, hM⟩
   ·refine wp_skip ?_
    refine qe ?_
    exact L6 _ _ ⟨(0 : Int), hS.to [0] (by kernel_rfl) ⟨rfl, rfl, rfl, rfl, trivial⟩, hM⟩
  ·intro a w hI
   obtain ⟨LZ, hS, hM⟩ := hI
   rw [zU.j2] at hM
   refine qm <| sM hS rfl fun hS => sM hS rfl fun hS => sM hS rfl fun hS => sO hS (vU rfl Tryd.runUnderlying3 Tryd.runUnderlying5) rfl fun hS => sM hS rfl fun hS => sO hS (shr rfl rfl rfl) rfl fun hS => sO hS (vU rfl Tryd.runUnderlying3 Tryd.runUnderlying5) rfl fun hS => sM hS rfl fun hS => sO hS (vU rfl Tryd.runUnderlying3 Tryd.runUnderlying5) rfl fun hS => sO hS (un rfl rfl) rfl fun hS => sM hS rfl fun hS => sO hS (shr rfl rfl rfl) rfl fun hS => sO hS (vU rfl Tryd.runUnderlying3 Tryd.runUnderlying5) rfl fun hS => sO hS (un rfl rfl) rfl fun hS => Y3 (g := (ci .u8)) ([LZ, (wr .u8 LY), (wr .u8 (z9 .i64 LY (8 : Int))), (Qn .u8 (wr .u8 LY)), (Qn .u8 (wr .u8 (z9 .i64 LY (8 : Int))))] : List Int) [.int .u8 LZ, .int .u8 (wr .u8 LY), .int .u8 (wr .u8 (z9 .i64 LY (8 : Int))), .int .u8 (Qn .u8 (wr .u8 LY)), .int .u8 (Qn .u8 (wr .u8 (z9 .i64 LY (8 : Int))))] hS Tryd.runUnderlying32 Tryd.sizeOf5 X.el5 rfl rfl rfl (by simp [Value.cells]) rfl rfl rfl rfl rfl fun w Mv Mz MB Mf hS => ?_
   obtain ⟨Mj, hM⟩ := qK hM
   refine JA (ys := ([LZ, (wr .u8 LY), (wr .u8 (z9 .i64 LY (8 : Int))), (Qn .u8 (wr .u8 LY)), (Qn .u8 (wr .u8 (z9 .i64 LY (8 : Int))))] : List Int)) 1 hS rfl rfl Me rfl (Mf.rd (i := 0) rfl) Tryd.runUnderlying32 Tryd.runUnderlying32 X.el5 (fun _ => rfl) rfl u3 Mj rfl fun Mu w Mw MA MC hz Mg hS => ?_
   have hM := qy hz hM; clear hz
   refine sA hS rfl fun hS => qB <| qm <| sM hS rfl fun hS => sM hS rfl fun hS => sM hS rfl fun hS => ?_
   obtain ⟨Mk, hM⟩ := qK hM
   refine sO hS (Gk rfl Tryd.runUnderlying9 Gt (BR rfl) Mk) rfl fun hS => ?_
   obtain ⟨Ml, hM⟩ := qK hM
   refine Lt 1 hS rfl rfl Mg rfl Tryd.runUnderlying32 Tryd.runUnderlying9 X.el5 rfl Ml rfl fun Ma w Mn Mp Mr hz L7 hS => ?_
   have hM := qy hz hM; clear hz
   refine sA hS rfl fun hS => qB <| qm <| sM hS rfl fun hS => sM hS rfl fun hS => ?_
   obtain ⟨Mm, hM⟩ := qK hM
   refine sO hS (Gk rfl Tryd.runUnderlying9 (D7 rfl) D0 Mm) rfl fun hS => zE (v := xf) (x0 := (sub L0 LY (L0.length : Int))) hS (xy rfl) rfl fun Ms a w hz hS => ?_
   have hM := qy hz hM; clear hz
   refine qB <| qm <| sM hS rfl fun hS => sB hS rfl fun hS => qB <| qG hS rfl hM (fun Mi hM => ?_) (fun Mi hM => ?_)
   ·refine wp_seq ?_
    refine zN <| sM hS rfl fun hS => sO hS (Gr rfl Tryd.runUnderlying32 Tryd.runUnderlying5 Tryd.runUnderlying9 (L7.rd (i := 1) rfl)) rfl fun hS => zE (v := xf) (x0 := (Ma.map uh)) hS (xy rfl) rfl fun Mt a w hz hS => ?_
    have hM := qy hz hM; clear hz
    refine qB <| wp_ret <| x3 (zm (x3 ?_))
    exact zD (rs := [2]) hS rfl rfl (hret Mt _ (q7 hM) (hS.st.pick [] (by kernel_rfl)))
   ·refine wp_skip ?_
    refine zy (qe ?_)
    exact Mc _ _ ⟨Ms, Mn, Mp, Ma, Mr, hS.to [1] (by kernel_rfl) ⟨rfl, rfl, trivial⟩, L7, hM⟩
theorem Jm {H : xR} {F : List qk} {w : World} {R : Ending → World → Prop} {kr : Bool → Prop} {kp : Value → Prop} (hG : Gl H) (K : Nat) (LY : qM)
    (hS : St w H [] F) (hm : (vz.m K LY).wp kr kp)
    (hret : ∀ (L0 : Bool) (w : World), kr L0 → St w H [] F → R (.returned (.bool L0)) w) :
    Calls Tryd.prog 66 ⟨[.agg ⟨[.int .u8 LY.Lit_, .int .i64 LY.Len_, .int .i64 LY.Dist_]⟩]⟩ w R := by
 refine enter Tryd.func66 rfl Tryd.ntmps66 rfl hS fun a w hS => ?_
 have hM := hm; clear hm
 rw [vz.m] at hM
 refine qm <| bx ([.int .u8 LY.Lit_, .int .i64 LY.Len_, .int .i64 LY.Dist_]) hS rfl rfl rfl fun w L5 L6 LZ hS => sA hS rfl fun hS => qB <| wp_seq <| qm <| sO hS (xv rfl Tryd.runUnderlying57 rfl Tryd.sizeOf3 rfl) rfl fun hS => sO hS (xY 0 rfl LZ rfl rfl Tryd.isAgg3) rfl fun hS => sB hS rfl fun hS => qB <| qG hS rfl hM (fun L1 hM => ?_) (fun L1 hM => ?_)
 ·refine wp_seq ?_
  refine zN <| sO hS (xv rfl Tryd.runUnderlying57 rfl Tryd.sizeOf3 rfl) rfl fun hS => sO hS (xY 0 rfl LZ rfl rfl Tryd.isAgg3) rfl fun hS => sB hS rfl fun hS => zE (v := Value.bool) (x0 := (LY.Len_ == (0 : Int))) hS (xy rfl) rfl fun L3 a w hz hS => ?_
  have hM := qy hz hM; clear hz
  refine qB <| wp_ret <| zm ?_
  exact zD (rs := [2]) hS rfl rfl (hret L3 _ (q7 hM) (hS.st.pick [] (by kernel_rfl)))
 ·refine wp_skip ?_
  refine qe <| qm <| sO hS (xv rfl Tryd.runUnderlying57 rfl Tryd.sizeOf3 rfl) rfl fun hS => sO hS (xY 0 rfl LZ rfl rfl Tryd.isAgg3) rfl fun hS => sB hS rfl fun hS => sM hS rfl fun hS => yS 3 true 12 (b := (decide (LY.Dist_ > (0 : Int)))) (r := (decide (LY.Dist_ ≤ (32768 : Int)))) hS rfl rfl rfl rfl rfl rfl rfl (fun hb a w hS K hK => ?_) rfl fun a w hS => ?_
  ·refine z2 hS rfl rfl rfl hb (xv rfl Tryd.runUnderlying57 rfl Tryd.sizeOf3 rfl) rfl fun a w hS => ?_
   refine z2 hS rfl rfl rfl hb (xY 0 rfl LZ rfl rfl Tryd.isAgg3) rfl fun a w hS => z2 hS rfl rfl rfl hb (jk rfl rfl rfl) rfl fun a w hS => ?_
   exact zp (hK _ _ (hS.up 3 rfl rfl))
  refine sM hS rfl fun hS => yS 3 true 17 (b := ((decide (LY.Dist_ > (0 : Int))) && (decide (LY.Dist_ ≤ (32768 : Int))))) (r := (decide (LY.Len_ ≥ (3 : Int)))) hS rfl rfl rfl rfl rfl rfl rfl (fun hb a w hS K hK => ?_) rfl fun a w hS => ?_
  ·refine z2 hS rfl rfl rfl hb (xv rfl Tryd.runUnderlying57 rfl Tryd.sizeOf3 rfl) rfl fun a w hS => ?_
   refine z2 hS rfl rfl rfl hb (xY 0 rfl LZ rfl rfl Tryd.isAgg3) rfl fun a w hS => z2 hS rfl rfl rfl hb (jk rfl rfl rfl) rfl fun a w hS => ?_
   exact zp (hK _ _ (hS.up 3 rfl rfl))
  refine sM hS rfl fun hS => yS 3 true 22 (b := (((decide (LY.Dist_ > (0 : Int))) && (decide (LY.Dist_ ≤ (32768 : Int)))) && (decide (LY.Len_ ≥ (3 : Int))))) (r := (decide (LY.Len_ ≤ (258 : Int)))) hS rfl rfl rfl rfl rfl rfl rfl (fun hb a w hS K hK => ?_) rfl fun a w hS => ?_
  ·refine z2 hS rfl rfl rfl hb (xv rfl Tryd.runUnderlying57 rfl Tryd.sizeOf3 rfl) rfl fun a w hS => ?_
   refine z2 hS rfl rfl rfl hb (xY 0 rfl LZ rfl rfl Tryd.isAgg3) rfl fun a w hS => z2 hS rfl rfl rfl hb (jk rfl rfl rfl) rfl fun a w hS => ?_
   exact zp (hK _ _ (hS.up 3 rfl rfl))
  refine sM hS rfl fun hS => yS 3 true 27 (b := ((((decide (LY.Dist_ > (0 : Int))) && (decide (LY.Dist_ ≤ (32768 : Int)))) && (decide (LY.Len_ ≥ (3 : Int)))) && (decide (LY.Len_ ≤ (258 : Int))))) (r := (LY.Lit_ == (0 : Int))) hS rfl rfl rfl rfl rfl rfl rfl (fun hb a w hS K hK => ?_) rfl fun a w hS => ?_
  ·refine z2 hS rfl rfl rfl hb (xv rfl Tryd.runUnderlying57 rfl Tryd.sizeOf5 rfl) rfl fun a w hS => ?_
   refine z2 hS rfl rfl rfl hb (xY 0 rfl LZ rfl rfl Tryd.isAgg5) rfl fun a w hS => z2 hS rfl rfl rfl hb (jk rfl rfl rfl) rfl fun a w hS => ?_
   exact zp (hK _ _ (hS.up 3 rfl rfl))
  refine zE (v := Value.bool) (x0 := (((((decide (LY.Dist_ > (0 : Int))) && (decide (LY.Dist_ ≤ (32768 : Int)))) && (decide (LY.Len_ ≥ (3 : Int)))) && (decide (LY.Len_ ≤ (258 : Int)))) && (LY.Lit_ == (0 : Int)))) hS (xy rfl) rfl fun L4 a w hz hS => ?_
  have hM := qy hz hM; clear hz
  refine qB <| wp_ret ?_
  exact zD (rs := [2]) hS rfl rfl (hret L4 _ (q7 hM) (hS.st.pick [] (by kernel_rfl)))
theorem uw {H : xR} {F : List qk} {w : World} {R : Ending → World → Prop} {kr : Int → Prop} {kp : Value → Prop} (hG : Gl H) (K : Nat) (L1 : Int) (LY : Int)
    (hS : St w H [] F) (hm : (x8.m K L1 LY).wp kr kp)
    (hret : ∀ (L4 : Int) (w : World), kr L4 → St w H [] F → R (.returned (.int .i64 L4)) w) :
    Calls Tryd.prog 68 ⟨[.int .i64 L1, .int .i64 LY]⟩ w R := by
 refine enter Tryd.func68 rfl Tryd.ntmps68 rfl hS fun a w hS => ?_
 have hM := hm; clear hm
 rw [x8.m] at hM
 refine qm <| sA hS rfl fun hS => qB <| qm <| sA hS rfl fun hS => qB <| wp_seq <| xO <| zu (fun L3 a w => ∃ (L0 : Int) (LZ : Int), Ss 15 [] [(0, .int .i64 L0), (1, .int .i64 LY), (5, .int .i64 LZ)] H [] F a w ∧ (x8.l1 K LY L3 L0 LZ).wp kr kp) K ?_ ?_ ?_
 ·exact ⟨L1, (0 : Int), hS.to [] (by kernel_rfl) ⟨rfl, rfl, rfl, trivial⟩, hM⟩
 ·intro a w hI; obtain ⟨_, _, _, hM⟩ := hI; exact zt hM
 ·intro L3 a w hI Ma L5
  obtain ⟨L0, LZ, hS, hM⟩ := hI
  rw [x8.l1] at hM
  refine wp_seq <| qm <| sM hS rfl fun hS => sM hS rfl fun hS => ?_
  obtain ⟨L7, hM⟩ := qK hM
  refine sO hS (shl rfl rfl L7) rfl fun hS => sB hS rfl fun hS => qB <| qG hS rfl hM (fun L6 hM => ?_) (fun L6 hM => ?_)
  ·refine wp_skip ?_
   refine qe <| xO <| qm <| sM hS rfl fun hS => sO hS (shr rfl rfl rfl) rfl fun hS => zE (v := Value.int .i64) (x0 := (z9 .i64 L0 (1 : Int))) hS (xy rfl) rfl fun L9 a w hz hS => ?_
   have hM := qy hz hM; clear hz
   refine qB <| zN <| sM hS rfl fun hS => sB hS rfl fun hS => zE (v := Value.int .i64) (x0 := (qh (LZ + (1 : Int)))) hS (xy rfl) rfl fun L8 a w hz hS => ?_
   have hM := qy hz hM; clear hz
   refine zp <| zy (qe ?_)
   exact L5 _ _ ⟨L9, L8, hS.to [] (by kernel_rfl) ⟨rfl, rfl, rfl, trivial⟩, hM⟩
  ·refine wp_exit ?_
   refine qE (qE (ze (qe ?_)))
   refine qm <| sM hS rfl fun hS => sA hS rfl fun hS => qB <| wp_ret ?_
   exact zD (rs := [4]) hS rfl rfl (hret LZ _ (q7 hM) (hS.st.pick [] (by kernel_rfl)))
theorem QC {H : xR} {F : List qk} {w : World} {R : Ending → World → Prop} {kr : Int → Prop} {kp : Value → Prop} (hG : Gl H) (K : Nat) (LY : Int)
    (hS : St w H [] F) (hm : (yN.m K LY).wp kr kp)
    (hret : ∀ (LZ : Int) (w : World), kr LZ → St w H [] F → R (.returned (.int .i64 LZ)) w) :
    Calls Tryd.prog 67 ⟨[.int .i64 LY]⟩ w R := by
 refine enter Tryd.func67 rfl Tryd.ntmps67 rfl hS fun a w hS => ?_
 have hM := hm; clear hm
 rw [yN.m] at hM
 refine qm <| sA hS rfl fun hS => qB <| wp_seq <| xO <| qm <| sM hS rfl fun hS => sB hS rfl fun hS => zE (v := Value.bool) (x0 := (LY == (258 : Int))) hS (xy rfl) rfl fun L7 a w hz hS => ?_
 have hM := qy hz hM; clear hz
 refine qB <| qG hS rfl hM (fun L0 hM => ?_) (fun L0 hM => ?_)
 ·refine wp_seq ?_
  refine zN <| sA hS rfl fun hS => qB <| wp_ret <| x3 (zm ?_)
  exact zD (rs := [2]) hS rfl rfl (hret (8 : Int) _ (q7 hM) (hS.st.pick [] (by kernel_rfl)))
 ·refine wp_seq ?_
  refine zN <| sM hS rfl fun hS => sB hS rfl fun hS => zE (v := Value.bool) (x0 := (decide (LY ≥ (115 : Int)))) hS (xy rfl) rfl fun L8 a w hz hS => ?_
  have hM := qy hz hM; clear hz
  refine qB <| qG hS rfl hM (fun L1 hM => ?_) (fun L1 hM => ?_)
  ·refine wp_seq ?_
   refine zN <| sM hS rfl fun hS => sB hS rfl fun hS => qF hS rfl Tryd.call68 (uw hG K (qh (LY - (3 : Int))) (2 : Int) (hS.st.part 0 [] (by kernel_rfl)) (qs hM) (fun L5 w hM  hst => qA hS.ev hst.appF rfl fun hS => ?_))
   replace hS : Ss _ _ _ H [] F _ _ := hS
   refine sB hS rfl fun hS => zE (v := Value.int .i64) (x0 := (qh ((8 : Int) + L5))) hS (xy rfl) rfl fun L3 a w hz hS => ?_
   have hM := qy hz hM; clear hz
   refine qB <| wp_ret <| x3 (zm ?_)
   exact zD (rs := [2]) hS rfl rfl (hret L3 _ (q7 hM) (hS.st.pick [] (by kernel_rfl)))
  ·refine wp_skip ?_
   refine zy (qe ?_)
   refine qm <| sM hS rfl fun hS => sB hS rfl fun hS => qF hS rfl Tryd.call68 (uw hG K (qh (LY - (3 : Int))) (2 : Int) (hS.st.part 0 [] (by kernel_rfl)) (qs hM) (fun L6 w hM  hst => qA hS.ev hst.appF rfl fun hS => ?_))
   replace hS : Ss _ _ _ H [] F _ _ := hS
   refine sB hS rfl fun hS => zE (v := Value.int .i64) (x0 := (qh ((7 : Int) + L6))) hS (xy rfl) rfl fun L4 a w hz hS => ?_
   have hM := qy hz hM; clear hz
   refine qB <| wp_ret ?_
   exact zD (rs := [2]) hS rfl rfl (hret L4 _ (q7 hM) (hS.st.pick [] (by kernel_rfl)))
theorem Jk {H : xR} {F : List qk} {w : World} {R : Ending → World → Prop} {kr : (Int × Int) → Prop} {kp : Value → Prop} (hG : Gl H) (K : Nat) (LY : List qM) (L7 : Option Addr) (L8 : Nat) (Mc : jG H [] F qM.cells L7 LY) (Mq : LY.length ≤ L8)
    (hS : St w H [] F) (hm : (xW.m K LY).wp kr kp)
    (hret : ∀ (Mf : Int) (Mg : Int) (w : World), kr (Mf, Mg) → St w H [] F → R (.returned (.tuple ⟨[.int .i64 Mf, .int .i64 Mg]⟩)) w) :
    Calls Tryd.prog 49 ⟨[.slice L7 LY.length L8]⟩ w R := by
 refine enter Tryd.func49 rfl Tryd.ntmps49 rfl hS fun a w hS => ?_
 have hM := hm; clear hm
 rw [xW.m] at hM
 refine qm <| sA hS rfl fun hS => sA hS rfl fun hS => qB <| qm <| sA hS rfl fun hS => qB <| wp_seq <| qm <| sM hS rfl fun hS => sO hS (yj rfl Tryd.runUnderlying37) rfl fun hS => sM hS rfl fun hS => qB <| xO <| zu (fun Me a w => ∃ (L0 : Int) (LZ : Int), Ss 47 [] [(4, .int .i64 L0), (7, .slice L7 LY.length L8), (8, .int .i64 (LY.length : Int)), (9, .int .i64 LZ)] H [] F a w ∧ (xW.l1 K LY Me L0 LZ).wp kr kp) K ?_ ?_ ?_
 ·exact ⟨(7 : Int), (0 : Int), hS.to [] (by kernel_rfl) ⟨rfl, rfl, rfl, rfl, trivial⟩, hM⟩
 ·intro a w hI; obtain ⟨_, _, _, hM⟩ := hI; exact zt hM
 ·intro Me a w hI Mr L5
  obtain ⟨L0, LZ, hS, hM⟩ := hI
  rw [xW.l1] at hM
  refine qm <| sB hS rfl fun hS => qB <| wp_seq <| qG hS rfl hM (fun Mi hM => ?_) (fun Mi hM => ?_)
  ·refine wp_skip ?_
   refine qe <| wp_seq <| xO <| wp_seq <| zN ?_
   obtain ⟨Mb, hM⟩ := qK hM
   refine sO hS (yu rfl rfl Tryd.runUnderlying37 Tryd.sizeOf57 Mc.wk (fun _ => rfl) rfl Mb) rfl fun hS => sO hS (vK rfl Mc.wk (fun _ => rfl) Mb Tryd.isAgg57 Tryd.sizeOf57 rfl) rfl fun hS => Qf ([.int .u8 (0 : Int), .int .i64 (0 : Int), .int .i64 (0 : Int)]) hS Tryd.zeroValue57 rfl rfl fun w L4 Ms Mh hS => Qs 0 ([.int .u8 ((rd LY LZ).Lit_), .int .i64 ((rd LY LZ).Len_), .int .i64 ((rd LY LZ).Dist_)]) ([.int .u8 ((rd LY LZ).Lit_), .int .i64 ((rd LY LZ).Len_), .int .i64 ((rd LY LZ).Dist_)]) hS rfl rfl Mh rfl rfl Tryd.sizeOf57 (by simp [Value.oneCell']) (Nat.le_of_ble_eq_true rfl) rfl fun w Ma L1 hS => qB <| xO <| qm <| sO hS (ut 0 rfl L1 rfl ([.int .u8 ((rd LY LZ).Lit_), .int .i64 ((rd LY LZ).Len_), .int .i64 ((rd LY LZ).Dist_)]) rfl rfl Tryd.isAgg57 Tryd.sizeOf57) rfl fun hS => qF hS rfl Tryd.call66 (Jm hG K (qM.mk ((rd LY LZ).Lit_) ((rd LY LZ).Len_) ((rd LY LZ).Dist_)) (hS.st.part 0 [0] (by kernel_rfl)) (qs hM) (fun Mp w hM  hst => qA hS.ev hst.appF rfl fun hS => ?_))
   replace hS : Ss _ _ _ H [Ma] F _ _ := hS
   refine sO hS (un rfl rfl) rfl fun hS => zE (v := Value.bool) (x0 := (!Mp)) hS (xy rfl) rfl fun Mt a w hz hS => ?_
   have hM := qy hz hM; clear hz
   refine qB <| qG hS rfl hM (fun Mj hM => ?_) (fun Mj hM => ?_)
   ·refine wp_seq ?_
    refine zN <| sA hS rfl fun hS => sA hS rfl fun hS => qB <| wp_ret <| x3 (x3 (zm (zm (x3 (zm ?_)))))
    exact zD (rs := [2, 3]) hS rfl rfl (hret (0 : Int) (1 : Int) _ (q7 hM) (hS.st.pick [] (by kernel_rfl)))
   ·refine wp_seq ?_
    refine zN <| sO hS (xv rfl Tryd.runUnderlying57 rfl Tryd.sizeOf3 rfl) rfl fun hS => sO hS (xY 0 rfl L1 rfl rfl Tryd.isAgg3) rfl fun hS => sB hS rfl fun hS => sM hS rfl fun hS => yS 3 true 32 (b := ((rd LY LZ).Dist_ == (0 : Int))) (r := (decide ((rd LY LZ).Lit_ < (144 : Int)))) hS rfl rfl rfl rfl rfl rfl rfl (fun hb a w hS K hK => ?_) rfl fun a w hS => ?_
    ·refine z2 hS rfl rfl rfl hb (xv rfl Tryd.runUnderlying57 rfl Tryd.sizeOf5 rfl) rfl fun a w hS => ?_
     refine z2 hS rfl rfl rfl hb (xY 0 rfl L1 rfl rfl Tryd.isAgg5) rfl fun a w hS => z2 hS rfl rfl rfl hb (jk rfl rfl rfl) rfl fun a w hS => ?_
     exact zp (hK _ _ (hS.up 3 rfl rfl))
    refine zE (v := Value.bool) (x0 := (((rd LY LZ).Dist_ == (0 : Int)) && (decide ((rd LY LZ).Lit_ < (144 : Int))))) hS (xy rfl) rfl fun Mu a w hz hS => ?_
    have hM := qy hz hM; clear hz
    refine qB <| qG hS rfl hM (fun Mk hM => ?_) (fun Mk hM => ?_)
    ·refine zN ?_
     refine sM hS rfl fun hS => sB hS rfl fun hS => zE (v := Value.int .i64) (x0 := (qh (L0 + (8 : Int)))) hS (xy rfl) rfl fun Mm a w hz hS => ?_
     have hM := qy hz hM; clear hz
     refine zp <| zy (zy (qe ?_))
     refine zN <| sB hS rfl fun hS => sM hS rfl fun hS => zp <| qe ?_
     exact L5 _ _ ⟨Mm, (qh (LZ + (1 : Int))), hS.to [] (by kernel_rfl) ⟨rfl, rfl, rfl, rfl, trivial⟩, hM⟩
    ·refine wp_seq ?_
     refine zN <| sO hS (xv rfl Tryd.runUnderlying57 rfl Tryd.sizeOf3 rfl) rfl fun hS => sO hS (xY 0 rfl L1 rfl rfl Tryd.isAgg3) rfl fun hS => sB hS rfl fun hS => zE (v := Value.bool) (x0 := ((rd LY LZ).Dist_ == (0 : Int))) hS (xy rfl) rfl fun Mv a w hz hS => ?_
     have hM := qy hz hM; clear hz
     refine qB <| qG hS rfl hM (fun Ml hM => ?_) (fun Ml hM => ?_)
     ·refine zN ?_
      refine sM hS rfl fun hS => sB hS rfl fun hS => zE (v := Value.int .i64) (x0 := (qh (L0 + (9 : Int)))) hS (xy rfl) rfl fun Mn a w hz hS => ?_
      have hM := qy hz hM; clear hz
      refine zp <| zy (zy (qe ?_))
      refine zN <| sB hS rfl fun hS => sM hS rfl fun hS => zp <| qe ?_
      exact L5 _ _ ⟨Mn, (qh (LZ + (1 : Int))), hS.to [] (by kernel_rfl) ⟨rfl, rfl, rfl, rfl, trivial⟩, hM⟩
     ·refine za (vals := [some (.int .i64 L0), some (qL L4 1), some (.int .i64 ((rd LY LZ).Len_)), none, none, some (qL L4 2), some (.int .i64 ((rd LY LZ).Dist_)), some (.int .i64 (qh ((rd LY LZ).Dist_ - (1 : Int)))), none, none, none, none]) hS xE rfl ?_
      intro l w ho hcl hA hst
      refine y9 hA hst ho hcl xx xF 3 [0, 1, 2, 5, 6, 7] rfl rfl rfl rfl rfl (by exact ⟨nM rfl, nQ rfl (by exact qX (xv rfl Tryd.runUnderlying57 rfl Tryd.sizeOf3 rfl) rfl), nQ rfl (by exact qX (xY 0 rfl L1 rfl rfl Tryd.isAgg3) rfl), nQ rfl (by exact qX (xv rfl Tryd.runUnderlying57 rfl Tryd.sizeOf3 rfl) rfl), nQ rfl (by exact qX (xY 0 rfl L1 rfl rfl Tryd.isAgg3) rfl), nB rfl, trivial⟩) fun D l a w ho hcl hav hpre hm hE hk hA hst => ?_
      have hS := (Ss.mk hE hst).env2 (e' := [(15, .int .i64 ((rd LY LZ).Len_))]) ⟨rfl, trivial⟩
      refine qQ rfl <| qF hS rfl Tryd.call67 (QC hG K ((rd LY LZ).Len_) (hS.st.part 0 [0] (by kernel_rfl)) (qs hM) (fun L3 w hM  hst => qA hS.ev hst.appF rfl fun hS => ?_))
      replace hS : Ss _ _ _ H [Ma] F _ _ := hS
      refine qB ?_
      replace hst := hS.st
      obtain ⟨hcl, hmust, hav2, hA⟩ := dn (vals' := [some (.int .i64 L0), some (qL L4 1), some (.int .i64 ((rd LY LZ).Len_)), some (.int .i64 L3), some (.int .i64 (qh (L3 + (5 : Int)))), some (qL L4 2), some (.int .i64 ((rd LY LZ).Dist_)), some (.int .i64 (qh ((rd LY LZ).Dist_ - (1 : Int)))), none, none, none, none]) 3 [(2, 3), (1, 2)] hA hcl hav hm hpre hk rfl rfl rfl rfl rfl rfl rfl
      clear hm hav
      refine y9 hA hst ho hcl hav2 hmust 8 [0, 4, 5, 6, 7] rfl rfl rfl rfl rfl (by exact ⟨nM rfl, nB rfl, nQ rfl (by exact qX (xv rfl Tryd.runUnderlying57 rfl Tryd.sizeOf3 rfl) rfl), nQ rfl (by exact qX (xY 0 rfl L1 rfl rfl Tryd.isAgg3) rfl), nB rfl, trivial⟩) fun D l a w ho hcl hav hpre hm hE hk hA hst => ?_
      have hS := (Ss.mk hE hst).env2 (e' := [(20, .int .i64 (qh ((rd LY LZ).Dist_ - (1 : Int))))]) ⟨rfl, trivial⟩
      refine qQ rfl <| qF hS rfl Tryd.call68 (uw hG K (qh ((rd LY LZ).Dist_ - (1 : Int))) (1 : Int) (hS.st.part 0 [0] (by kernel_rfl)) (qs hM) (fun L9 w hM  hst => qA hS.ev hst.appF rfl fun hS => ?_))
      replace hS : Ss _ _ _ H [Ma] F _ _ := hS
      refine qB ?_
      replace hst := hS.st
      obtain ⟨L6, Md⟩ : ∃ x, x = (qh (L0 + (qh ((qh (L3 + (5 : Int))) + L9)))) := ⟨_, rfl⟩
      replace hM := qy Md hM
      obtain ⟨hcl, hmust, hav2, hA⟩ := dn (vals' := [some (.int .i64 L0), some (qL L4 1), some (.int .i64 ((rd LY LZ).Len_)), some (.int .i64 L3), some (.int .i64 (qh (L3 + (5 : Int)))), some (qL L4 2), some (.int .i64 ((rd LY LZ).Dist_)), some (.int .i64 (qh ((rd LY LZ).Dist_ - (1 : Int)))), some (.int .i64 L9), some (.int .i64 (qh ((qh (L3 + (5 : Int))) + L9))), some (.int .i64 (qh (L0 + (qh ((qh (L3 + (5 : Int))) + L9))))), some (.int .i64 L6)]) 8 [(3, 8), (7, 8), (2, 3), (6, 7), (1, 2), (5, 6)] hA hcl hav hm hpre hk rfl rfl rfl rfl rfl rfl rfl
      clear hm hav
      refine yk hA hst ho hcl hmust [0, 4, 9, 10, 11] rfl rfl rfl (by exact ⟨nM rfl, nB rfl, nB rfl, nB rfl, nQ rfl (by exact qX (xy rfl) (congrArg (Value.int .i64) Md.symm)), trivial⟩) fun a w hS => ?_
      replace hS := hS.env2 (e' := [(4, .int .i64 L6), (7, .slice L7 LY.length L8), (8, .int .i64 (LY.length : Int)), (9, .int .i64 LZ)]) ⟨rfl, rfl, rfl, rfl, trivial⟩
      refine zy (zy (qe ?_))
      refine zN <| sB hS rfl fun hS => sM hS rfl fun hS => zp <| qe ?_
      exact L5 _ _ ⟨L6, (qh (LZ + (1 : Int))), hS.to [] (by kernel_rfl) ⟨rfl, rfl, rfl, rfl, trivial⟩, hM⟩
  ·refine wp_exit ?_
   refine qE (qE (ze (qe ?_)))
   refine qm <| sM hS rfl fun hS => sA hS rfl fun hS => sA hS rfl fun hS => qB <| wp_ret ?_
   exact zD (rs := [2, 3]) hS rfl rfl (hret L0 (0 : Int) _ (q7 hM) (hS.st.pick [] (by kernel_rfl)))
theorem uQ {H : xR} {F : List qk} {w : World} {R : Ending → World → Prop} {kr : Bool → Prop} {kp : Value → Prop} (hG : Gl H) (K : Nat) (LY : List qM) (LZ : Option Addr) (L0 : Nat) (L4 : jG H [] F qM.cells LZ LY) (L3 : LY.length ≤ L0)
    (hS : St w H [] F) (hm : (je.m K LY).wp kr kp)
    (hret : ∀ (L1 : Bool) (w : World), kr L1 → St w H [] F → R (.returned (.bool L1)) w) :
    Calls Tryd.prog 28 ⟨[.slice LZ LY.length L0]⟩ w R := by
 refine enter Tryd.func28 rfl Tryd.ntmps28 rfl hS fun a w hS => ?_
 have hM := hm; clear hm
 rw [je.m] at hM
 refine qm <| sA hS rfl fun hS => qB <| qm <| sM hS rfl fun hS => qF hS rfl Tryd.call49 (Jk hG K LY LZ L0 (L4.app _) L3 (hS.st.part 0 [] (by kernel_rfl)) (qs hM) (fun L7 L6 w hM  hst => qA hS.ev hst.appF rfl fun hS => ?_))
 replace hS : Ss _ _ _ H [] F _ _ := hS
 refine sM hS rfl fun hS => sO hS (ex rfl rfl) rfl fun hS => sO hS (ex rfl rfl) rfl fun hS => sA hS rfl fun hS => sA hS rfl fun hS => qB <| qm <| sM hS rfl fun hS => sB hS rfl fun hS => zE (v := Value.bool) (x0 := (L6 == (0 : Int))) hS (xy rfl) rfl fun L5 a w hz hS => ?_
 have hM := qy hz hM; clear hz
 refine qB <| wp_ret ?_
 exact zD (rs := [2]) hS rfl rfl (hret L5 _ (q7 hM) (hS.st.pick [] (by kernel_rfl)))
theorem uN {H : xR} {F : List qk} {w : World} {R : Ending → World → Prop} {kr : (List Int) → Prop} {kp : Value → Prop} (hG : Gl H) (K : Nat) (L0 : List Int) (Mq : L0.length = 16)
    (hS : St w H [] F) (hm : (zK.m K L0).wp kr kp)
    (hret : ∀ (Mh : (List Int)) (w : World), kr Mh → (Mh.length = 16) → St w H [] F → R (.returned (.agg ⟨Mh.flatMap (ci .i64)⟩)) w) :
    Calls Tryd.prog 71 ⟨[.agg ⟨L0.flatMap (ci .i64)⟩]⟩ w R := by
 refine enter Tryd.func71 rfl Tryd.ntmps71 rfl hS fun a w hS => ?_
 have hM := hm; clear hm
 rw [zK.m] at hM
 refine qm <| bx (L0.flatMap (ci .i64)) hS rfl rfl rfl fun w Mt Mu Mk hS => Qf ((List.replicate 16 (0 : Int)).flatMap (ci .i64)) hS Tryd.zeroValue127 rfl rfl fun w L5 Mv Ml hS => qB <| qm <| sA hS rfl fun hS => qB <| zj (fun a w => ∃ (LY : (List Int)) (Mc : qk), Ss 20 [] [(2, qL L5 0)] H [Mc] F a w ∧ (LY.length = 16) ∧ (xJ Mc L5 (LY.flatMap (ci .i64)) 127) ∧ (zK.j2 K LY).wp kr kp) (fun My Mn => ?_) ?_
 ·refine wp_seq ?_
  refine zN <| sA hS rfl fun hS => qB <| xO <| zu (fun Mj a w => ∃ (LZ : (List Int)) (Mb : qk) (L1 : Int) (L4 : Int), Ss 20 [] [(1, qL Mt 0), (2, qL L5 0), (3, .int .i64 L1), (4, .int .i64 L4)] H [Mu, Mb] F a w ∧ (LZ.length = 16) ∧ (xJ Mb L5 (LZ.flatMap (ci .i64)) 127) ∧ (zK.l1 K L0 Mj LZ L1 L4).wp kr kp) K ?_ ?_ ?_
  ·exact ⟨(List.replicate 16 (0 : Int)), Mv, (0 : Int), (1 : Int), hS.to [1, 0] (by kernel_rfl) ⟨rfl, rfl, rfl, rfl, trivial⟩, (List.length_replicate ..), Ml, hM⟩
  ·intro a w hI; obtain ⟨_, _, _, _, _, _, _, hM⟩ := hI; exact zt hM
  ·intro Mj a w hI Mx Mm
   obtain ⟨LZ, Mb, L1, L4, hS, L9, Md, hM⟩ := hI
   rw [zK.l1] at hM
   refine wp_seq <| qm <| sM hS rfl fun hS => sB hS rfl fun hS => qB <| qG hS rfl hM (fun Mp hM => ?_) (fun Mp hM => ?_)
   ·refine wp_skip ?_
    refine qe <| wp_seq <| xO <| qm <| sM hS rfl fun hS => sM hS rfl fun hS => sB hS rfl fun hS => ?_
    obtain ⟨Mf, hM⟩ := qK hM
    refine sO hS (VA rfl rfl Tryd.runUnderlying127 Tryd.sizeOf3 Mf) rfl fun hS => sO hS (GO (xs := L0) (g := (ci .i64)) (pre := []) (post := []) 0 rfl Mk rfl (by simp) rfl (fun _ => rfl) (y3 Mq Mf) rfl Tryd.isAgg3) rfl fun hS => sB hS rfl fun hS => sO hS (shl rfl rfl rfl) rfl fun hS => zE (v := Value.int .i64) (x0 := (z6 .i64 (qh (L1 + (rd L0 (qh (L4 - (1 : Int)))))) (1 : Int))) hS (xy rfl) rfl fun L6 a w hz hS => ?_
    have hM := qy hz hM; clear hz
    refine qB <| zN <| sM hS rfl fun hS => sM hS rfl fun hS => ?_
    obtain ⟨Mg, hM⟩ := qK hM
    refine sO hS (VA rfl rfl Tryd.runUnderlying127 Tryd.sizeOf3 Mg) rfl fun hS => Dv (xs := LZ) (g := (ci .i64)) (pre := []) (post := []) 1 (L6) hS rfl rfl Md rfl (by simp) rfl (fun _ => rfl) (y3 L9 Mg) rfl Tryd.sizeOf3 (xH _) fun Ma w Mi hz L7 hS => ?_
    have Mr : Ma.length = 16 := by rw [hz, List.length_set]; exact L9
    have hM := qy hz hM; clear hz
    replace L7 : xJ Mi L5 (Ma.flatMap (ci .i64)) 127 := by simpa using L7
    refine zp <| zy (qe ?_)
    refine zN <| sM hS rfl fun hS => sB hS rfl fun hS => zE (v := Value.int .i64) (x0 := (qh (L4 + (1 : Int)))) hS (xy rfl) rfl fun Ms a w hz hS => ?_
    have hM := qy hz hM; clear hz
    refine zp <| qe ?_
    exact Mm _ _ ⟨Ma, Mi, L6, Ms, hS.to [0, 1] (by kernel_rfl) ⟨rfl, rfl, rfl, rfl, trivial⟩, Mr, L7, hM⟩
   ·refine wp_exit ?_
    refine qE (qE (ze (qe ?_)))
    exact Mn _ _ ⟨LZ, Mb, hS.to [1] (by kernel_rfl) ⟨rfl, trivial⟩, L9, Md, hM⟩
 ·intro a w hI
  obtain ⟨LY, Mc, hS, L3, Me, hM⟩ := hI
  rw [zK.j2] at hM
  refine qm <| sO hS (Yg (xs := LY) (g := (ci .i64)) (pre := []) (post := []) 0 rfl Me rfl (by simp) rfl (xg (g := (ci .i64)) (sz := 1) (fun _ => rfl) L3) Tryd.isAgg127 Tryd.sizeOf127) rfl fun hS => Yi (xs := LY) (ys := LY) (g := (ci .i64)) (pre := []) (post := []) 0 hS rfl rfl Me rfl (by simp) rfl (xg (g := (ci .i64)) (sz := 1) (fun _ => rfl) L3) (xg (g := (ci .i64)) (sz := 1) (fun _ => rfl) L3) (xH) Tryd.sizeOf127 fun w Mw L8 hS => ?_
  replace L8 : xJ Mw L5 (LY.flatMap (ci .i64)) 127 := by simpa using L8
  refine qB <| wp_ret ?_
  exact jc (vs := [.agg ⟨LY.flatMap (ci .i64)⟩]) hS rfl (by exact ⟨GX 0 rfl L8 rfl (xg (g := (ci .i64)) (sz := 1) (fun _ => rfl) L3) Tryd.isAgg127 Tryd.sizeOf127, trivial⟩) (hret LY _ (q7 hM) L3 (hS.st.pick [] (by kernel_rfl)))
theorem Jd {H : xR} {F : List qk} {w : World} {R : Ending → World → Prop} {kr : ((List Int) × Int) → Prop} {kp : Value → Prop} (hG : Gl H) (K : Nat) (LY : List Int) (Ma : Option Addr) (Mb : Nat) (L9 : jG H [] F (ci .i64) Ma LY) (Mq : LY.length ≤ Mb)
    (hS : St w H [] F) (hm : (x6.m K LY).wp kr kp)
    (hret : ∀ (Mw : Option Addr) (Mx : Nat) (Mv : (List Int)) (MB : qk) (ME : Int) (w : World), kr (Mv, ME) → (xi 3 (ci .i64) 1 Mw Mv Mx MB) → St w H [MB] F → R (.returned (.tuple ⟨[.slice Mw Mv.length Mx, .int .i64 ME]⟩)) w) :
    Calls Tryd.prog 52 ⟨[.slice Ma LY.length Mb]⟩ w R := by
 refine enter Tryd.func52 rfl Tryd.ntmps52 rfl hS fun a w hS => ?_
 have hM := hm; clear hm
 rw [x6.m] at hM
 refine qm <| sA hS rfl fun hS => ?_
 obtain ⟨Mm, MV, hS⟩ := hS.nilV 3 (ci .i64) 1
 refine sA hS rfl fun hS => qB <| wp_seq <| qm <| sM hS rfl fun hS => qF hS rfl Tryd.call69 (QT hG K LY Ma Mb (L9.app _) Mq (hS.st.part 0 [0] (by kernel_rfl)) (qs hM) (fun MU w hM  hst => qA hS.ev hst.appF rfl fun hS => ?_))
 replace hS : Ss _ _ _ H [Mm] F _ _ := hS
 refine sA hS rfl fun hS => qB <| qm <| sM hS rfl fun hS => sB hS rfl fun hS => qB <| qG hS rfl hM (fun MK hM => ?_) (fun MK hM => ?_)
 ·refine wp_seq ?_
  refine zN <| sM hS rfl fun hS => sA hS rfl fun hS => ?_
  obtain ⟨MR, MH, hS⟩ := hS.nilV 3 (ci .i64) 1
  refine sA hS rfl fun hS => qB <| wp_ret <| zm ?_
  exact zD (rs := [2, 3]) hS rfl rfl (hret none (0) ([] : List Int) MR MU _ (q7 hM) MH (hS.st.pick [0] (by kernel_rfl)))
 ·refine wp_skip ?_
  refine qe <| qm <| sM hS rfl fun hS => qF hS rfl Tryd.call70 (um hG K LY Ma Mb (L9.app _) Mq (hS.st.part 0 [0] (by kernel_rfl)) (qs hM) (fun Ml MZ w hM Mn hst => qA hS.ev hst.appF rfl fun hS => ?_))
  replace hS : Ss _ _ _ H [Mm] F _ _ := hS
  refine sM hS rfl fun hS => sO hS (ex rfl rfl) rfl fun hS => sO hS (ex rfl rfl) rfl fun hS => Qf ((List.replicate 16 (0 : Int)).flatMap (ci .i64)) hS Tryd.zeroValue127 rfl rfl fun w MQ MX MF hS => Yi (xs := (List.replicate 16 (0 : Int))) (ys := Ml) (g := (ci .i64)) (pre := []) (post := []) 0 hS rfl rfl MF rfl (by simp) rfl (xg (g := (ci .i64)) (sz := 1) (fun _ => rfl) (List.length_replicate ..)) (xg (g := (ci .i64)) (sz := 1) (fun _ => rfl) Mn) (xH) Tryd.sizeOf127 fun w My Md hS => ?_
  replace Md : xJ My MQ (Ml.flatMap (ci .i64)) 127 := by simpa using Md
  refine sA hS rfl fun hS => qB <| qm <| sO hS (Yg (xs := Ml) (g := (ci .i64)) (pre := []) (post := []) 0 rfl Md rfl (by simp) rfl (xg (g := (ci .i64)) (sz := 1) (fun _ => rfl) Mn) Tryd.isAgg127 Tryd.sizeOf127) rfl fun hS => qF hS rfl Tryd.call71 (uN hG K Ml Mn (hS.st.part 0 [0, 1] (by kernel_rfl)) (qs hM) (fun Mu w hM MC hst => qA hS.ev hst.appF rfl fun hS => ?_))
  replace hS : Ss _ _ _ H [My, Mm] F _ _ := hS
  refine Qf ((List.replicate 16 (0 : Int)).flatMap (ci .i64)) hS Tryd.zeroValue127 rfl rfl fun w Mj MY MG hS => Yi (xs := (List.replicate 16 (0 : Int))) (ys := Mu) (g := (ci .i64)) (pre := []) (post := []) 0 hS rfl rfl MG rfl (by simp) rfl (xg (g := (ci .i64)) (sz := 1) (fun _ => rfl) (List.length_replicate ..)) (xg (g := (ci .i64)) (sz := 1) (fun _ => rfl) MC) (xH) Tryd.sizeOf127 fun w Mz Me hS => ?_
  replace Me : xJ Mz Mj (Mu.flatMap (ci .i64)) 127 := by simpa using Me
  refine qB <| qm <| sM hS rfl fun hS => sO hS (yj rfl Tryd.runUnderlying66) rfl fun hS => ?_
  obtain ⟨MN, hM⟩ := qK hM
  refine BC (g := (ci .i64)) (m := (LY.length : Int)) (0 : Int) hS rfl rfl (by simp) Tryd.runUnderlying66 X.el3 (fun w => ⟨_, Tryd.zeroValue3 w, rfl⟩) (fun _ => rfl) rfl rfl MN rfl fun MP w L3 L4 MS hz MI hS => ?_
  have hM := qy hz hM; clear hz
  refine sA hS rfl fun hS => qB <| wp_seq <| qm <| sM hS rfl fun hS => sO hS (yj rfl Tryd.runUnderlying66) rfl fun hS => sM hS rfl fun hS => qB <| xO <| zu (fun MD a w => ∃ (LZ : (List Int)) (Mk : qk) (L0 : (List Int)) (Mc : qk) (L6 : Int), Ss 48 [] [(7, qL Mj 0), (8, .slice L3 L0.length L4), (26, .slice Ma LY.length Mb), (27, .int .i64 (LY.length : Int)), (28, .int .i64 L6)] H [Mk, Mc] F a w ∧ (LZ.length = 16) ∧ (xJ Mk Mj (LZ.flatMap (ci .i64)) 127) ∧ (xi 3 (ci .i64) 1 L3 L0 L4 Mc) ∧ (x6.l1 K LY MD LZ L0 L6).wp kr kp) K ?_ ?_ ?_
  ·exact ⟨Mu, Mz, MP, MS, (0 : Int), hS.to [1, 0] (by kernel_rfl) ⟨rfl, rfl, rfl, rfl, rfl, trivial⟩, MC, Me, MI, hM⟩
  ·intro a w hI; obtain ⟨_, _, _, _, _, _, _, _, _, hM⟩ := hI; exact zt hM
  ·intro MD a w hI MW Mp
   obtain ⟨LZ, Mk, L0, Mc, L6, hS, L5, L7, L8, hM⟩ := hI
   rw [x6.l1] at hM
   refine qm <| sB hS rfl fun hS => qB <| wp_seq <| qG hS rfl hM (fun ML hM => ?_) (fun ML hM => ?_)
   ·refine wp_skip ?_
    refine qe <| wp_seq <| xO <| qm <| sM hS rfl fun hS => ?_
    obtain ⟨Mr, hM⟩ := qK hM
    refine sO hS (yu rfl rfl Tryd.runUnderlying66 Tryd.sizeOf3 L9.wk (fun _ => rfl) rfl Mr) rfl fun hS => sO hS (yD rfl L9.wk (fun _ => rfl) Mr rfl Tryd.isAgg3) rfl fun hS => sA hS rfl fun hS => zE (v := Value.int .i64) (x0 := (rd LY L6)) hS (xy rfl) rfl fun Mg a w hz hS => ?_
    have hM := qy hz hM; clear hz
    refine qB <| qm <| sM hS rfl fun hS => sB hS rfl fun hS => qB <| qG hS rfl hM (fun MM hM => ?_) (fun MM hM => ?_)
    ·refine wp_seq ?_
     refine zN <| sM hS rfl fun hS => sM hS rfl fun hS => sM hS rfl fun hS => ?_
     obtain ⟨L1, hM⟩ := qK hM
     refine sO hS (VA rfl rfl Tryd.runUnderlying127 Tryd.sizeOf3 L1) rfl fun hS => sO hS (GO (xs := LZ) (g := (ci .i64)) (pre := []) (post := []) 0 rfl L7 rfl (by simp) rfl (fun _ => rfl) (y3 L5 L1) rfl Tryd.isAgg3) rfl fun hS => ?_
     obtain ⟨Ms, hM⟩ := qK hM
     refine sO hS (yu rfl rfl Tryd.runUnderlying66 Tryd.sizeOf3 (L8.rd (i := 1) rfl) (fun _ => rfl) rfl Ms) rfl fun hS => JB (i := L6) (sz := 1) 1 0 ((rd LZ Mg)) hS rfl rfl L8 rfl Tryd.sizeOf3 (xH (rd LZ Mg)) (fun _ => rfl) Ms rfl rfl fun Mh w MT hz Mt MJ hS => ?_
     have hM := qy hz hM; clear hz
     replace hS := hS.re 8 (u := .slice L3 L0.length L4) (v := .slice L3 Mh.length L4) rfl (by rw [Mt])
     replace hS := hS.re 35 (u := .slice L3 L0.length L4) (v := .slice L3 Mh.length L4) rfl (by rw [Mt])
     refine qB <| zN <| sM hS rfl fun hS => sO hS (VA rfl rfl Tryd.runUnderlying127 Tryd.sizeOf3 L1) rfl fun hS => sO hS (GO (xs := LZ) (g := (ci .i64)) (pre := []) (post := []) 0 rfl L7 rfl (by simp) rfl (fun _ => rfl) (y3 L5 L1) rfl Tryd.isAgg3) rfl fun hS => sB hS rfl fun hS => sO hS (VA rfl rfl Tryd.runUnderlying127 Tryd.sizeOf3 L1) rfl fun hS => Dv (xs := LZ) (g := (ci .i64)) (pre := []) (post := []) 0 ((qh ((rd LZ Mg) + (1 : Int)))) hS rfl rfl L7 rfl (by simp) rfl (fun _ => rfl) (y3 L5 L1) rfl Tryd.sizeOf3 (xH _) fun Mi w MA hz Mf hS => ?_
     have MO : Mi.length = 16 := by rw [hz, List.length_set]; exact L5
     have hM := qy hz hM; clear hz
     replace Mf : xJ MA Mj (Mi.flatMap (ci .i64)) 127 := by simpa using Mf
     refine zp <| zy (qe ?_)
     refine zN <| sB hS rfl fun hS => sM hS rfl fun hS => zp <| qe ?_
     exact Mp _ _ ⟨Mi, MA, Mh, MT, (qh (L6 + (1 : Int))), hS.to [0, 1] (by kernel_rfl) ⟨rfl, rfl, rfl, rfl, rfl, trivial⟩, MO, Mf, MJ, hM⟩
    ·refine wp_skip ?_
     refine zy (qe ?_)
     refine zN <| sB hS rfl fun hS => sM hS rfl fun hS => zp <| qe ?_
     exact Mp _ _ ⟨LZ, Mk, L0, Mc, (qh (L6 + (1 : Int))), hS.to [0, 1] (by kernel_rfl) ⟨rfl, rfl, rfl, rfl, rfl, trivial⟩, L5, L7, L8, hM⟩
   ·refine wp_exit ?_
    refine qE (qE (ze (qe ?_)))
    refine qm <| sM hS rfl fun hS => sA hS rfl fun hS => sA hS rfl fun hS => qB <| wp_ret ?_
    exact zD (rs := [2, 3]) hS rfl rfl (hret L3 L4 L0 Mc (0 : Int) _ (q7 hM) L8 (hS.st.pick [1] (by kernel_rfl)))
theorem yU {H : xR} {F : List qk} {w : World} {R : Ending → World → Prop} {kr : (List Int) → Prop} {kp : Value → Prop} (hG : Gl H) (K : Nat) (LY : List Int) (LZ : Option Addr) (L0 : Nat) (Md : jG H [] F (ci .i64) LZ LY) (Mc : LY.length ≤ L0)
    (hS : St w H [] F) (hm : (yd.m K LY).wp kr kp)
    (hret : ∀ (L6 : Option Addr) (L7 : Nat) (L1 : (List Int)) (L9 : qk) (w : World), kr L1 → (xi 3 (ci .i64) 1 L6 L1 L7 L9) → St w H [L9] F → R (.returned (.agg ⟨[.slice LZ LY.length L0, .slice L6 L1.length L7]⟩)) w) :
    Calls Tryd.prog 35 ⟨[.slice LZ LY.length L0]⟩ w R := by
 refine enter Tryd.func35 rfl Tryd.ntmps35 rfl hS fun a w hS => ?_
 have hM := hm; clear hm
 rw [yd.m] at hM
 refine qm <| Qf ([.slice none 0 0, .slice none 0 0]) hS Tryd.zeroValue68 rfl rfl fun w Mk Me Ma hS => ?_
 obtain ⟨Mf, Mi, hS⟩ := hS.nilV 3 (ci .i64) 1
 obtain ⟨Mg, Mj, hS⟩ := hS.nilV 3 (ci .i64) 1
 refine qB <| qm <| sM hS rfl fun hS => qF hS rfl Tryd.call52 (Jd hG K LY LZ L0 (Md.app _) Mc (hS.st.part 0 [0, 1, 2] (by kernel_rfl)) (qs hM) (fun L3 L4 L5 L8 Mm w hM Mh hst => qA hS.ev hst.appF rfl fun hS => ?_))
 replace hS : Ss _ _ _ H [L8, Mg, Mf, Me] F _ _ := hS
 refine sM hS rfl fun hS => sO hS (ex rfl rfl) rfl fun hS => sO hS (ex rfl rfl) rfl fun hS => sA hS rfl fun hS => sA hS rfl fun hS => qB <| qm <| sM hS rfl fun hS => sM hS rfl fun hS => sO hS (Z9 ([.slice LZ LY.length L0, .slice L3 L5.length L4]) [(0, 1), (1, 1)] Tryd.zeroValue68 Tryd.runUnderlying68 (by intro w; simp [Tryd.sizeOf66]) rfl rfl) rfl fun hS => Qs 3 ([.slice LZ LY.length L0, .slice L3 L5.length L4]) ([.slice LZ LY.length L0, .slice L3 L5.length L4]) hS rfl rfl Ma rfl rfl Tryd.sizeOf68 (by simp [Value.oneCell']) (Nat.le_of_ble_eq_true rfl) rfl fun w Ml Mb hS => qB <| wp_ret ?_
 exact jc (vs := [.agg ⟨[.slice LZ LY.length L0, .slice L3 L5.length L4]⟩]) hS rfl (by exact ⟨UE 3 ([.slice LZ LY.length L0, .slice L3 L5.length L4]) rfl Mb rfl rfl rfl Tryd.isAgg68 Tryd.sizeOf68, trivial⟩) (hret L3 L4 L5 L8 _ (q7 hM) Mh (hS.st.pick [0] (by kernel_rfl)))
theorem uR {H : xR} {F : List qk} {w : World} {R : Ending → World → Prop} {kr : ((List Int) × (List Int) × (List Int) × (List Int)) → Prop} {kp : Value → Prop} (hG : Gl H) (K : Nat)
    (hS : St w H [] F) (hm : (qY.m K).wp kr kp)
    (hret : ∀ (MQ : Option Addr) (MU : Nat) (L8 : (List Int)) (MZ : qk) (MR : Option Addr) (MV : Nat) (Mc : (List Int)) (M0 : qk) (MS : Option Addr) (MW : Nat) (L9 : (List Int)) (M3 : qk) (MT : Option Addr) (MX : Nat) (Md : (List Int)) (M4 : qk) (w : World), kr (L8, Mc, L9, Md) → (xi 3 (ci .i64) 1 MQ L8 MU MZ) → (xi 3 (ci .i64) 1 MR Mc MV M0) → (xi 3 (ci .i64) 1 MS L9 MW M3) → (xi 3 (ci .i64) 1 MT Md MX M4) → St w H [MZ, M0, M3, M4] F → R (.returned (.tuple ⟨[.agg ⟨[.slice MQ L8.length MU, .slice MR Mc.length MV]⟩, .agg ⟨[.slice MS L9.length MW, .slice MT Md.length MX]⟩]⟩)) w) :
    Calls Tryd.prog 29 ⟨[]⟩ w R := by
 refine enter Tryd.func29 rfl Tryd.ntmps29 rfl hS fun a w hS => ?_
 have hM := hm; clear hm
 rw [qY.m] at hM
 refine qm <| Qf ([.slice none 0 0, .slice none 0 0]) hS Tryd.zeroValue68 rfl rfl fun w MD Mg M7 hS => ?_
 obtain ⟨Mh, Nz, hS⟩ := hS.nilV 3 (ci .i64) 1
 obtain ⟨Mi, NA, hS⟩ := hS.nilV 3 (ci .i64) 1
 refine Qf ([.slice none 0 0, .slice none 0 0]) hS Tryd.zeroValue68 rfl rfl fun w ME Mj M8 hS => ?_
 obtain ⟨Mk, NB, hS⟩ := hS.nilV 3 (ci .i64) 1
 obtain ⟨Ml, NC, hS⟩ := hS.nilV 3 (ci .i64) 1
 refine qB <| wp_seq <| zN ?_
 obtain ⟨Np, hM⟩ := qK hM
 refine BC (g := (ci .i64)) (m := (288 : Int)) (0 : Int) hS rfl rfl (by simp) Tryd.runUnderlying66 X.el3 (fun w => ⟨_, Tryd.zeroValue3 w, rfl⟩) (fun _ => rfl) rfl rfl Np rfl fun Mx w LY LZ Nr hz Nf hS => ?_
 have hM := qy hz hM; clear hz
 refine sA hS rfl fun hS => qB <| zj (fun a w => ∃ (L0 : (List Int)) (Me : qk), Ss 46 [] [(0, qL MD 0), (1, qL ME 0), (2, .slice LY L0.length LZ)] H [Mg, Mh, Mi, Mj, Mk, Ml, Me] F a w ∧ (xi 3 (ci .i64) 1 LY L0 LZ Me) ∧ (qY.j2 K L0).wp kr kp) (fun NE Nb => ?_) ?_
 ·refine wp_seq ?_
  refine zN <| sM hS rfl fun hS => sO hS (yj rfl Tryd.runUnderlying66) rfl fun hS => sM hS rfl fun hS => qB <| xO <| zu (fun M5 a w => ∃ (L1 : (List Int)) (MF : qk) (L5 : Int), Ss 46 [] [(0, qL MD 0), (1, qL ME 0), (2, .slice LY L1.length LZ), (8, .int .i64 (Mx.length : Int)), (9, .int .i64 L5)] H [Mg, Mh, Mi, Mj, Mk, Ml, MF] F a w ∧ (xi 3 (ci .i64) 1 LY L1 LZ MF) ∧ (qY.l1 K Mx M5 L1 L5).wp kr kp) K ?_ ?_ ?_
  ·exact ⟨Mx, Nr, (0 : Int), hS.to [6, 5, 4, 3, 2, 1, 0] (by kernel_rfl) ⟨rfl, rfl, rfl, rfl, rfl, trivial⟩, Nf, hM⟩
  ·intro a w hI; obtain ⟨_, _, _, _, _, hM⟩ := hI; exact zt hM
  ·intro M5 a w hI ND Mt
   obtain ⟨L1, MF, L5, hS, Mb, hM⟩ := hI
   rw [qY.l1] at hM
   refine qm <| sB hS rfl fun hS => qB <| wp_seq <| qG hS rfl hM (fun Nl hM => ?_) (fun Nl hM => ?_)
   ·refine wp_skip ?_
    refine qe <| wp_seq <| xO <| qm <| sM hS rfl fun hS => sA hS rfl fun hS => qB <| xO <| qm <| sM hS rfl fun hS => sB hS rfl fun hS => sM hS rfl fun hS => yS 2 false 18 (b := (decide (L5 < (144 : Int)))) (r := (decide (L5 ≥ (280 : Int)))) hS rfl rfl rfl rfl rfl rfl rfl (fun hb a w hS K hK => ?_) rfl fun a w hS => ?_
    ·refine z2 hS rfl rfl rfl hb (mv rfl) rfl fun a w hS => ?_
     refine z2 hS rfl rfl rfl hb (jk rfl rfl rfl) rfl fun a w hS => ?_
     exact zp (hK _ _ (hS.up 2 rfl rfl))
    refine zE (v := Value.bool) (x0 := ((decide (L5 < (144 : Int))) || (decide (L5 ≥ (280 : Int))))) hS (xy rfl) rfl fun NJ a w hz hS => ?_
    have hM := qy hz hM; clear hz
    refine qB <| qG hS rfl hM (fun Nm hM => ?_) (fun Nm hM => ?_)
    ·refine zN ?_
     refine sM hS rfl fun hS => sM hS rfl fun hS => ?_
     obtain ⟨MI, hM⟩ := qK hM
     refine sO hS (yu rfl rfl Tryd.runUnderlying66 Tryd.sizeOf3 (Mb.rd (i := 6) rfl) (fun _ => rfl) rfl MI) rfl fun hS => JB (i := L5) (sz := 1) 6 0 ((8 : Int)) hS rfl rfl Mb rfl Tryd.sizeOf3 (xH (8 : Int)) (fun _ => rfl) MI rfl rfl fun My w Ns hz MM Ng hS => ?_
     have hM := qy hz hM; clear hz
     replace hS := hS.re 2 (u := .slice LY L1.length LZ) (v := .slice LY My.length LZ) rfl (by rw [MM])
     replace hS := hS.re 22 (u := .slice LY L1.length LZ) (v := .slice LY My.length LZ) rfl (by rw [MM])
     refine zp <| zy (zy (qe ?_))
     refine zN <| sB hS rfl fun hS => sM hS rfl fun hS => zp <| qe ?_
     exact Mt _ _ ⟨My, Ns, (qh (L5 + (1 : Int))), hS.to [0, 1, 2, 3, 4, 5, 6] (by kernel_rfl) ⟨rfl, rfl, rfl, rfl, rfl, trivial⟩, Ng, hM⟩
    ·refine wp_seq ?_
     refine zN <| sM hS rfl fun hS => sB hS rfl fun hS => zE (v := Value.bool) (x0 := (decide (L5 < (256 : Int)))) hS (xy rfl) rfl fun NK a w hz hS => ?_
     have hM := qy hz hM; clear hz
     refine qB <| qG hS rfl hM (fun Nn hM => ?_) (fun Nn hM => ?_)
     ·refine zN ?_
      refine sM hS rfl fun hS => sM hS rfl fun hS => ?_
      obtain ⟨MJ, hM⟩ := qK hM
      refine sO hS (yu rfl rfl Tryd.runUnderlying66 Tryd.sizeOf3 (Mb.rd (i := 6) rfl) (fun _ => rfl) rfl MJ) rfl fun hS => JB (i := L5) (sz := 1) 6 0 ((9 : Int)) hS rfl rfl Mb rfl Tryd.sizeOf3 (xH (9 : Int)) (fun _ => rfl) MJ rfl rfl fun Mz w Nt hz MN Nh hS => ?_
      have hM := qy hz hM; clear hz
      replace hS := hS.re 2 (u := .slice LY L1.length LZ) (v := .slice LY Mz.length LZ) rfl (by rw [MN])
      replace hS := hS.re 28 (u := .slice LY L1.length LZ) (v := .slice LY Mz.length LZ) rfl (by rw [MN])
      refine zp <| zy (zy (qe ?_))
      refine zN <| sB hS rfl fun hS => sM hS rfl fun hS => zp <| qe ?_
      exact Mt _ _ ⟨Mz, Nt, (qh (L5 + (1 : Int))), hS.to [0, 1, 2, 3, 4, 5, 6] (by kernel_rfl) ⟨rfl, rfl, rfl, rfl, rfl, trivial⟩, Nh, hM⟩
     ·refine zN ?_
      refine sM hS rfl fun hS => sM hS rfl fun hS => ?_
      obtain ⟨MK, hM⟩ := qK hM
      refine sO hS (yu rfl rfl Tryd.runUnderlying66 Tryd.sizeOf3 (Mb.rd (i := 6) rfl) (fun _ => rfl) rfl MK) rfl fun hS => JB (i := L5) (sz := 1) 6 0 ((7 : Int)) hS rfl rfl Mb rfl Tryd.sizeOf3 (xH (7 : Int)) (fun _ => rfl) MK rfl rfl fun MA w Nu hz MO Ni hS => ?_
      have hM := qy hz hM; clear hz
      replace hS := hS.re 2 (u := .slice LY L1.length LZ) (v := .slice LY MA.length LZ) rfl (by rw [MO])
      replace hS := hS.re 12 (u := .slice LY L1.length LZ) (v := .slice LY MA.length LZ) rfl (by rw [MO])
      refine zp <| zy (zy (qe ?_))
      refine zN <| sB hS rfl fun hS => sM hS rfl fun hS => zp <| qe ?_
      exact Mt _ _ ⟨MA, Nu, (qh (L5 + (1 : Int))), hS.to [0, 1, 2, 3, 4, 5, 6] (by kernel_rfl) ⟨rfl, rfl, rfl, rfl, rfl, trivial⟩, Ni, hM⟩
   ·refine wp_exit ?_
    refine qE (qE (ze (qe ?_)))
    exact Nb _ _ ⟨L1, MF, hS.to [0, 1, 2, 3, 4, 5, 6] (by kernel_rfl) ⟨rfl, rfl, rfl, trivial⟩, Mb, hM⟩
 ·intro a w hI
  obtain ⟨L0, Me, hS, Mu, hM⟩ := hI
  rw [qY.j2] at hM
  refine wp_seq <| zN ?_
  obtain ⟨Nq, hM⟩ := qK hM
  refine BC (g := (ci .i64)) (m := (32 : Int)) (0 : Int) hS rfl rfl (by simp) Tryd.runUnderlying66 X.el3 (fun w => ⟨_, Tryd.zeroValue3 w, rfl⟩) (fun _ => rfl) rfl rfl Nq rfl fun MB w L3 L4 Nv hz Nj hS => ?_
  have hM := qy hz hM; clear hz
  refine sA hS rfl fun hS => qB <| zj (fun a w => ∃ (Ma : (List Int)) (Mm : qk), Ss 46 [] [(0, qL MD 0), (1, qL ME 0), (2, .slice LY L0.length LZ), (4, .slice L3 Ma.length L4)] H [Mg, Mh, Mi, Mj, Mk, Ml, Me, Mm] F a w ∧ (xi 3 (ci .i64) 1 L3 Ma L4 Mm) ∧ (qY.j4 K L0 Ma).wp kr kp) (fun NG Nd => ?_) ?_
  ·refine wp_seq ?_
   refine zN <| sM hS rfl fun hS => sO hS (yj rfl Tryd.runUnderlying66) rfl fun hS => sM hS rfl fun hS => qB <| xO <| zu (fun M6 a w => ∃ (Mf : (List Int)) (MG : qk) (Ms : Int), Ss 46 [] [(0, qL MD 0), (1, qL ME 0), (2, .slice LY L0.length LZ), (4, .slice L3 Mf.length L4), (34, .int .i64 (MB.length : Int)), (35, .int .i64 Ms)] H [Mg, Mh, Mi, Mj, Mk, Ml, Me, MG] F a w ∧ (xi 3 (ci .i64) 1 L3 Mf L4 MG) ∧ (qY.l3 K L0 MB M6 Mf Ms).wp kr kp) K ?_ ?_ ?_
   ·exact ⟨MB, Nv, (0 : Int), hS.to [1, 2, 3, 4, 5, 6, 7, 0] (by kernel_rfl) ⟨rfl, rfl, rfl, rfl, rfl, rfl, trivial⟩, Nj, hM⟩
   ·intro a w hI; obtain ⟨_, _, _, _, _, hM⟩ := hI; exact zt hM
   ·intro M6 a w hI NF Nc
    obtain ⟨Mf, MG, Ms, hS, Mv, hM⟩ := hI
    rw [qY.l3] at hM
    refine qm <| sB hS rfl fun hS => qB <| wp_seq <| qG hS rfl hM (fun No hM => ?_) (fun No hM => ?_)
    ·refine wp_skip ?_
     refine qe <| wp_seq <| xO <| qm <| sM hS rfl fun hS => sA hS rfl fun hS => qB <| zN <| sM hS rfl fun hS => sM hS rfl fun hS => ?_
     obtain ⟨ML, hM⟩ := qK hM
     refine sO hS (yu rfl rfl Tryd.runUnderlying66 Tryd.sizeOf3 (Mv.rd (i := 7) rfl) (fun _ => rfl) rfl ML) rfl fun hS => JB (i := Ms) (sz := 1) 7 0 ((5 : Int)) hS rfl rfl Mv rfl Tryd.sizeOf3 (xH (5 : Int)) (fun _ => rfl) ML rfl rfl fun MC w Nw hz MP Nk hS => ?_
     have hM := qy hz hM; clear hz
     replace hS := hS.re 4 (u := .slice L3 Mf.length L4) (v := .slice L3 MC.length L4) rfl (by rw [MP])
     replace hS := hS.re 38 (u := .slice L3 Mf.length L4) (v := .slice L3 MC.length L4) rfl (by rw [MP])
     refine zp <| zy (qe ?_)
     refine zN <| sB hS rfl fun hS => sM hS rfl fun hS => zp <| qe ?_
     exact Nc _ _ ⟨MC, Nw, (qh (Ms + (1 : Int))), hS.to [0, 1, 2, 3, 4, 5, 6, 7] (by kernel_rfl) ⟨rfl, rfl, rfl, rfl, rfl, rfl, trivial⟩, Nk, hM⟩
    ·refine wp_exit ?_
     refine qE (qE (ze (qe ?_)))
     exact Nd _ _ ⟨Mf, MG, hS.to [0, 1, 2, 3, 4, 5, 6, 7] (by kernel_rfl) ⟨rfl, rfl, rfl, rfl, trivial⟩, Mv, hM⟩
  ·intro a w hI
   obtain ⟨Ma, Mm, hS, Mw, hM⟩ := hI
   rw [qY.j4] at hM
   refine qm <| sM hS rfl fun hS => qF hS rfl Tryd.call35 (yU hG K L0 LY LZ (Mu.rdF (i := 6) rfl) (Mu.cap (fun _ => rfl) rfl) (hS.st.part 0 [0, 1, 2, 3, 4, 5, 6, 7] (by kernel_rfl)) (qs hM) (fun Mn Mq L6 MH w hM Nx hst => qA hS.ev hst.appF rfl fun hS => ?_))
   replace hS : Ss _ _ _ H [MH, Mg, Mh, Mi, Mj, Mk, Ml, Me, Mm] F _ _ := hS
   refine sM hS rfl fun hS => qF hS rfl Tryd.call35 (yU hG K Ma L3 L4 (Mw.rdF (i := 8) rfl) (Mw.cap (fun _ => rfl) rfl) (hS.st.part 0 [0, 1, 2, 3, 4, 5, 6, 7, 8] (by kernel_rfl)) (qs hM) (fun Mp Mr L7 MY w hM Ny hst => qA hS.ev hst.appF rfl fun hS => ?_))
   replace hS : Ss _ _ _ H [MY, MH, Mg, Mh, Mi, Mj, Mk, Ml, Me, Mm] F _ _ := hS
   refine Qs 2 ([.slice LY L0.length LZ, .slice Mn L6.length Mq]) ([.slice LY L0.length LZ, .slice Mn L6.length Mq]) hS rfl rfl M7 rfl rfl Tryd.sizeOf68 (by simp [Value.oneCell']) (Nat.le_of_ble_eq_true rfl) rfl fun w NH M9 hS => Qs 5 ([.slice L3 Ma.length L4, .slice Mp L7.length Mr]) ([.slice L3 Ma.length L4, .slice Mp L7.length Mr]) hS rfl rfl M8 rfl rfl Tryd.sizeOf68 (by simp [Value.oneCell']) (Nat.le_of_ble_eq_true rfl) rfl fun w NI Na hS => qB <| wp_ret ?_
   exact jc (vs := [.agg ⟨[.slice LY L0.length LZ, .slice Mn L6.length Mq]⟩, .agg ⟨[.slice L3 Ma.length L4, .slice Mp L7.length Mr]⟩]) hS rfl (by exact ⟨UE 2 ([.slice LY L0.length LZ, .slice Mn L6.length Mq]) rfl M9 rfl rfl rfl Tryd.isAgg68 Tryd.sizeOf68, UE 5 ([.slice L3 Ma.length L4, .slice Mp L7.length Mr]) rfl Na rfl rfl rfl Tryd.isAgg68 Tryd.sizeOf68, trivial⟩) (hret LY LZ L0 Me Mn Mq L6 MH L3 L4 Ma Mm Mp Mr L7 MY _ (q7 hM) Mu Nx Mw Ny (hS.st.pick [8, 1, 9, 0] (by kernel_rfl)))
theorem zk {H : xR} {F : List qk} {w : World} {R : Ending → World → Prop} {kr : (Int × Int × (List Int)) → Prop} {kp : Value → Prop} (hG : Gl H) (K : Nat) (LZ : qp) (ME : Int) (L8 : Int) (L3 : Nat) (MB : qk) (My : Option Addr) (MA : Nat) (MC : qk) (Ma : Option Addr) (Me : Nat) (Mq : qk) (Mb : Option Addr) (Mf : Nat) (Mr : qk) (Mc : Option Addr) (Mg : Nat) (Ms : qk) (Md : Option Addr) (Mh : Nat) (Mt : qk) (MG : xJ MB L3 ([.int .i64 LZ.Writer_.place_.at_, .slice My LZ.Writer_.bytes_.length MA, .slice Ma LZ.literals_.lengths_.length Me, .slice Mb LZ.literals_.codes_.length Mf, .slice Mc LZ.distances_.lengths_.length Mg, .slice Md LZ.distances_.codes_.length Mh]) 70) (MJ : xi 5 (ci .u8) 1 My LZ.Writer_.bytes_ MA MC) (Nh : xi 3 (ci .i64) 1 Ma LZ.literals_.lengths_ Me Mq) (Ni : xi 3 (ci .i64) 1 Mb LZ.literals_.codes_ Mf Mr) (Nj : xi 3 (ci .i64) 1 Mc LZ.distances_.lengths_ Mg Ms) (Nk : xi 3 (ci .i64) 1 Md LZ.distances_.codes_ Mh Mt)
    (hS : St w H [MB, MC, Mq, Mr, Ms, Mt] F) (hm : (qn.m K LZ ME L8).wp kr kp)
    (hret : ∀ (MT : Int) (Mz : Int) (MO : Option Addr) (MQ : Nat) (L9 : (List Int)) (MR : qk) (MS : qk) (w : World), kr (MT, Mz, L9) → (xi 5 (ci .u8) 1 MO L9 MQ MR) → (xJ MS L3 ([.int .i64 Mz, .slice MO L9.length MQ, .slice Ma LZ.literals_.lengths_.length Me, .slice Mb LZ.literals_.codes_.length Mf, .slice Mc LZ.distances_.lengths_.length Mg, .slice Md LZ.distances_.codes_.length Mh]) 70) → St w H [MS, MR, Mq, Mr, Ms, Mt] F → R (.returned (.int .i64 MT)) w) :
    Calls Tryd.prog 30 ⟨[qL L3 0, .int .u32 ME, .int .i64 L8]⟩ w R := by
 refine enter Tryd.func30 rfl Tryd.ntmps30 rfl hS fun a w hS => ?_
 have hM := hm; clear hm
 rw [qn.m] at hM
 refine qm <| sA hS rfl fun hS => qB <| wp_seq <| qm <| sM hS rfl fun hS => sO hS (Xz rfl rfl Tryd.runUnderlying105) rfl fun hS => sM hS rfl fun hS => z2 hS rfl rfl rfl rfl (mv rfl) rfl fun a w hS => z2 hS rfl rfl rfl rfl (jk rfl rfl rfl) rfl fun a w hS => sO hS (pk rfl rfl rfl) rfl fun hS => sM hS rfl fun hS => yS 2 false 14 (b := (decide (L8 < (0 : Int)))) (r := (decide (L8 > (32 : Int)))) hS rfl rfl rfl rfl rfl rfl rfl (fun hb a w hS K hK => ?_) rfl fun a w hS => ?_
 ·refine z2 hS rfl rfl rfl hb (mv rfl) rfl fun a w hS => ?_
  refine z2 hS rfl rfl rfl hb (jk rfl rfl rfl) rfl fun a w hS => ?_
  exact zp (hK _ _ (hS.up 2 rfl rfl))
 refine sM hS rfl fun hS => ?_
 obtain ⟨M6, hM⟩ := qK hM
 refine yS 5 false 18 (b := ((decide (L8 < (0 : Int))) || (decide (L8 > (32 : Int))))) (r := (decide ((z9 .u64 (wr .u64 ME) L8) > (0 : Int)))) hS rfl rfl rfl rfl rfl rfl rfl (fun hb a w hS K hK => ?_) rfl fun a w hS => ?_
 ·refine z2 hS rfl rfl rfl hb (mv rfl) rfl fun a w hS => ?_
  refine z2 hS rfl rfl rfl hb (vU rfl Tryd.runUnderlying25 Tryd.runUnderlying36) rfl fun a w hS => z2 hS rfl rfl rfl hb (mv rfl) rfl fun a w hS => ?_
  have M5 := D2 M6 hb
  refine z2 hS rfl rfl rfl hb (shr rfl rfl M5) rfl fun a w hS => z2 hS rfl rfl rfl hb (jk rfl rfl rfl) rfl fun a w hS => ?_
  exact zp (hK _ _ (hS.up 5 rfl rfl))
 refine qB <| qG hS rfl hM (fun M0 hM => ?_) (fun M0 hM => ?_)
 ·refine wp_seq ?_
  refine zN <| sA hS rfl fun hS => qB <| wp_ret <| zm ?_
  exact zD (rs := [6]) hS rfl rfl (hret (1 : Int) LZ.Writer_.place_.at_ My MA LZ.Writer_.bytes_ MC MB _ (q7 hM) MJ MG (hS.st.pick [0, 1, 2, 3, 4, 5] (by kernel_rfl)))
 ·refine wp_skip ?_
  refine qe <| wp_seq <| xO <| zu (fun ML a w => ∃ (LY : Int) (Mn : Option Addr) (Mp : Nat) (L5 : (List Int)) (Mu : qk) (Mv : qk) (L4 : Int) (L7 : Int), Ss 95 [] [(0, qL L3 0), (1, .int .u32 L4), (2, .int .i64 L7)] H [Mv, Mu, Mq, Mr, Ms, Mt] F a w ∧ (xi 5 (ci .u8) 1 Mn L5 Mp Mu) ∧ (xJ Mv L3 ([.int .i64 LY, .slice Mn L5.length Mp, .slice Ma LZ.literals_.lengths_.length Me, .slice Mb LZ.literals_.codes_.length Mf, .slice Mc LZ.distances_.lengths_.length Mg, .slice Md LZ.distances_.codes_.length Mh]) 70) ∧ (qn.l1 K ML LY L5 L4 L7).wp kr kp) K ?_ ?_ ?_
  ·exact ⟨LZ.Writer_.place_.at_, My, MA, LZ.Writer_.bytes_, MC, MB, ME, L8, hS.to [0, 1, 2, 3, 4, 5] (by kernel_rfl) ⟨rfl, rfl, rfl, trivial⟩, MJ, MG, hM⟩
  ·intro a w hI; obtain ⟨_, _, _, _, _, _, _, _, _, _, _, hM⟩ := hI; exact zt hM
  ·intro ML a w hI Nn MW
   obtain ⟨LY, Mn, Mp, L5, Mu, Mv, L4, L7, hS, Mw, Mj, hM⟩ := hI
   rw [qn.l1] at hM
   refine wp_seq <| qm <| sM hS rfl fun hS => sB hS rfl fun hS => qB <| qG hS rfl hM (fun M3 hM => ?_) (fun M3 hM => ?_)
   ·refine wp_skip ?_
    refine qe <| xO <| zj (fun a w => ∃ (L6 : Option Addr) (Mi : Nat) (L1 : (List Int)) (MF : qk) (MD : qk), Ss 95 [] [(0, qL L3 0), (1, .int .u32 L4), (2, .int .i64 L7)] H [MD, MF, Mq, Mr, Ms, Mt] F a w ∧ (xi 5 (ci .u8) 1 L6 L1 Mi MF) ∧ (xJ MD L3 ([.int .i64 LY, .slice L6 L1.length Mi, .slice Ma LZ.literals_.lengths_.length Me, .slice Mb LZ.literals_.codes_.length Mf, .slice Mc LZ.distances_.lengths_.length Mg, .slice Md LZ.distances_.codes_.length Mh]) 70) ∧ (qn.j2 K (qn.l1 K ML) LY L4 L7 L1).wp kr kp) (fun Nm MI => ?_) ?_
    ·refine wp_seq ?_
     refine zN <| sM hS rfl fun hS => sO hS (yw rfl) rfl fun hS => sO hS (xv rfl Tryd.runUnderlying65 rfl Tryd.sizeOf63 rfl) rfl fun hS => sO hS (xv rfl Tryd.runUnderlying63 rfl Tryd.sizeOf3 rfl) rfl fun hS => sO hS (xY 0 rfl Mj rfl rfl Tryd.isAgg3) rfl fun hS => sB hS rfl fun hS => sB hS rfl fun hS => qB <| qG hS rfl hM (fun M4 hM => ?_) (fun M4 hM => ?_)
     ·refine zN ?_
      refine sM hS rfl fun hS => sM hS rfl fun hS => sO hS (yw rfl) rfl fun hS => sO hS (xv rfl Tryd.runUnderlying65 rfl Tryd.sizeOf32 rfl) rfl fun hS => sO hS (xY 0 rfl Mj rfl rfl Tryd.isAgg32) rfl fun hS => Y3 (g := (ci .u8)) ([(0 : Int)] : List Int) [.int .u8 (0 : Int)] hS Tryd.runUnderlying32 Tryd.sizeOf5 X.el5 rfl rfl rfl (by simp [Value.cells]) rfl rfl rfl rfl rfl fun w Nl No Np MX hS => ?_
      obtain ⟨M7, hM⟩ := qK hM
      refine JA (ys := ([(0 : Int)] : List Int)) 2 hS rfl rfl Mw rfl (MX.rd (i := 0) rfl) Tryd.runUnderlying32 Tryd.runUnderlying32 X.el5 (fun _ => rfl) rfl u3 M7 rfl fun MM w MN MP Nb hz MY hS => ?_
      have hM := qy hz hM; clear hz
      refine sO hS (yw rfl) rfl fun hS => sO hS (xv rfl Tryd.runUnderlying65 rfl Tryd.sizeOf32 rfl) rfl fun hS => JC 1 ([.int .i64 LY, .slice MN MM.length MP, .slice Ma LZ.literals_.lengths_.length Me, .slice Mb LZ.literals_.codes_.length Mf, .slice Mc LZ.distances_.lengths_.length Mg, .slice Md LZ.distances_.codes_.length Mh]) hS rfl rfl Mj rfl rfl rfl rfl Tryd.sizeOf32 fun w Nc MU hS => zp <| qe ?_
      exact MI _ _ ⟨MN, MP, MM, Nb, Nc, hS.to [1, 2, 3, 4, 5, 6] (by kernel_rfl) ⟨rfl, rfl, rfl, trivial⟩, MY, MU, hM⟩
     ·refine wp_skip ?_
      refine qe ?_
      exact MI _ _ ⟨Mn, Mp, L5, Mu, Mv, hS.to [0, 1, 2, 3, 4, 5] (by kernel_rfl) ⟨rfl, rfl, rfl, trivial⟩, Mw, Mj, hM⟩
    ·intro a w hI
     obtain ⟨L6, Mi, L1, MF, MD, hS, Ml, Mk, hM⟩ := hI
     rw [qn.j2] at hM
     refine qm <| sM hS rfl fun hS => sO hS (yw rfl) rfl fun hS => sO hS (xv rfl Tryd.runUnderlying65 rfl Tryd.sizeOf63 rfl) rfl fun hS => sO hS (xv rfl Tryd.runUnderlying63 rfl Tryd.sizeOf3 rfl) rfl fun hS => sO hS (xY 0 rfl Mk rfl rfl Tryd.isAgg3) rfl fun hS => sB hS rfl fun hS => sB hS rfl fun hS => sM hS rfl fun hS => sO hS (VS rfl rfl) rfl fun hS => zE (v := Value.int .i64) (x0 := (if L7 < (qh ((8 : Int) - (xD .i64 LY (7 : Int)))) then L7 else (qh ((8 : Int) - (xD .i64 LY (7 : Int)))))) hS (xy rfl) rfl fun L0 a w hz hS => ?_
     have hM := qy hz hM; clear hz
     refine qB <| wp_seq ?_
     obtain ⟨Mm, hM⟩ := qK hM
     obtain ⟨MK, hM⟩ := qK hM
     obtain ⟨M8, hM⟩ := qK hM
     refine za (vals := [some (qL L3 0), some (qL L3 0), some (qL L3 1), some (.slice L6 L1.length Mi), some (qL L3 0), some (qL L3 0), some (qL L3 0), some (qL L3 0), some (.int .i64 LY), some (.int .i64 (xX .i64 LY (8 : Int))), some (xG L6 (Int.toNat (xX .i64 LY (8 : Int)) * 1)), some (.int .u8 (rd L1 (xX .i64 LY (8 : Int)))), some (.int .u32 L4), some (.int .i64 L0), some (.int .u32 (z6 .u32 (1 : Int) L0)), some (.int .u32 (wr .u32 ((z6 .u32 (1 : Int) L0) - (1 : Int)))), some (.int .u32 (xD .u32 L4 (wr .u32 ((z6 .u32 (1 : Int) L0) - (1 : Int))))), some (.int .u8 (wr .u8 (xD .u32 L4 (wr .u32 ((z6 .u32 (1 : Int) L0) - (1 : Int)))))), some (qL L3 0), some (qL L3 0), some (qL L3 0), some (qL L3 0), some (.int .i64 LY), some (.int .i64 (xD .i64 LY (7 : Int))), some (.int .u8 (z6 .u8 (wr .u8 (xD .u32 L4 (wr .u32 ((z6 .u32 (1 : Int) L0) - (1 : Int))))) (xD .i64 LY (7 : Int)))), some (.int .u8 (Qo .u8 (rd L1 (xX .i64 LY (8 : Int))) (z6 .u8 (wr .u8 (xD .u32 L4 (wr .u32 ((z6 .u32 (1 : Int) L0) - (1 : Int))))) (xD .i64 LY (7 : Int))))), some (xG L6 (Int.toNat (xX .i64 LY (8 : Int)) * 1)), none]) hS xE rfl ?_
     intro l w ho hcl hA hst
     refine y9 hA hst ho hcl xx xF 27 [0, 1, 2, 3, 4, 5, 6, 7, 8, 9, 10, 11, 12, 13, 14, 15, 16, 17, 18, 19, 20, 21, 22, 23, 24, 25, 26] rfl rfl rfl rfl rfl (by exact ⟨nM rfl, nQ rfl (by exact qX (yw rfl) rfl), nQ rfl (by exact qX (xv rfl Tryd.runUnderlying65 rfl Tryd.sizeOf32 rfl) rfl), nQ rfl (by exact qX (xY 0 rfl Mk rfl rfl Tryd.isAgg32) rfl), nM rfl, nQ rfl (by exact qX (yw rfl) rfl), nQ rfl (by exact qX (xv rfl Tryd.runUnderlying65 rfl Tryd.sizeOf63 rfl) rfl), nQ rfl (by exact qX (xv rfl Tryd.runUnderlying63 rfl Tryd.sizeOf3 rfl) rfl), nQ rfl (by exact qX (xY 0 rfl Mk rfl rfl Tryd.isAgg3) rfl), nQ rfl (by exact qX (quo rfl rfl rfl) rfl), nQ rfl (by exact qX (yu rfl rfl Tryd.runUnderlying32 Tryd.sizeOf5 (Ml.rd (i := 1) rfl) (fun _ => rfl) rfl Mm) rfl), nQ rfl (by exact qX (yD rfl (Ml.rd (i := 1) rfl) (fun _ => rfl) Mm rfl Tryd.isAgg5) rfl), nM rfl, nM rfl, nQ rfl (by exact qX (shl rfl rfl MK) rfl), nB rfl, nB rfl, nQ rfl (by exact qX (vU rfl Tryd.runUnderlying25 Tryd.runUnderlying5) rfl), nM rfl, nQ rfl (by exact qX (yw rfl) rfl), nQ rfl (by exact qX (xv rfl Tryd.runUnderlying65 rfl Tryd.sizeOf63 rfl) rfl), nQ rfl (by exact qX (xv rfl Tryd.runUnderlying63 rfl Tryd.sizeOf3 rfl) rfl), nQ rfl (by exact qX (xY 0 rfl Mk rfl rfl Tryd.isAgg3) rfl), nB rfl, nQ rfl (by exact qX (shl rfl rfl M8) rfl), nB rfl, nQ rfl (by exact qX (yu rfl rfl Tryd.runUnderlying32 Tryd.sizeOf5 (Ml.rd (i := 1) rfl) (fun _ => rfl) rfl Mm) rfl), trivial⟩) fun D l a w ho hcl hav hpre hm hE hk hA hst => ?_
     have hS := (Ss.mk hE hst).env2 (e' := [(77, .int .u8 (Qo .u8 (rd L1 (xX .i64 LY (8 : Int))) (z6 .u8 (wr .u8 (xD .u32 L4 (wr .u32 ((z6 .u32 (1 : Int) L0) - (1 : Int))))) (xD .i64 LY (7 : Int))))), (78, xG L6 (Int.toNat (xX .i64 LY (8 : Int)) * 1))]) ⟨rfl, rfl, trivial⟩
     refine qQ rfl <| JB (i := (xX .i64 LY (8 : Int))) (sz := 1) 1 0 ((Qo .u8 (rd L1 (xX .i64 LY (8 : Int))) (z6 .u8 (wr .u8 (xD .u32 L4 (wr .u32 ((z6 .u32 (1 : Int) L0) - (1 : Int))))) (xD .i64 LY (7 : Int))))) hS rfl rfl Ml rfl Tryd.sizeOf5 (u3 (Qo .u8 (rd L1 (xX .i64 LY (8 : Int))) (z6 .u8 (wr .u8 (xD .u32 L4 (wr .u32 ((z6 .u32 (1 : Int) L0) - (1 : Int))))) (xD .i64 LY (7 : Int))))) (fun _ => rfl) Mm rfl rfl fun Mx w Nd hz M9 MZ hS => ?_
     have hM := qy hz hM; clear hz
     have MH : xJ MD L3 ([.int .i64 LY, .slice L6 Mx.length Mi, .slice Ma LZ.literals_.lengths_.length Me, .slice Mb LZ.literals_.codes_.length Mf, .slice Mc LZ.distances_.lengths_.length Mg, .slice Md LZ.distances_.codes_.length Mh]) 70 := by rw [M9]; exact Mk
     refine qB ?_
     replace hst := hS.st
     obtain ⟨hcl, hmust, hav2, hA⟩ := Xx (vals' := [some (qL L3 0), some (qL L3 0), some (qL L3 1), some (.slice L6 L1.length Mi), some (qL L3 0), some (qL L3 0), some (qL L3 0), some (qL L3 0), some (.int .i64 LY), some (.int .i64 (xX .i64 LY (8 : Int))), some (xG L6 (Int.toNat (xX .i64 LY (8 : Int)) * 1)), some (.int .u8 (rd L1 (xX .i64 LY (8 : Int)))), some (.int .u32 L4), some (.int .i64 L0), some (.int .u32 (z6 .u32 (1 : Int) L0)), some (.int .u32 (wr .u32 ((z6 .u32 (1 : Int) L0) - (1 : Int)))), some (.int .u32 (xD .u32 L4 (wr .u32 ((z6 .u32 (1 : Int) L0) - (1 : Int))))), some (.int .u8 (wr .u8 (xD .u32 L4 (wr .u32 ((z6 .u32 (1 : Int) L0) - (1 : Int)))))), some (qL L3 0), some (qL L3 0), some (qL L3 0), some (qL L3 0), some (.int .i64 LY), some (.int .i64 (xD .i64 LY (7 : Int))), some (.int .u8 (z6 .u8 (wr .u8 (xD .u32 L4 (wr .u32 ((z6 .u32 (1 : Int) L0) - (1 : Int))))) (xD .i64 LY (7 : Int)))), some (.int .u8 (Qo .u8 (rd L1 (xX .i64 LY (8 : Int))) (z6 .u8 (wr .u8 (xD .u32 L4 (wr .u32 ((z6 .u32 (1 : Int) L0) - (1 : Int))))) (xD .i64 LY (7 : Int))))), some (xG L6 (Int.toNat (xX .i64 LY (8 : Int)) * 1)), some undef]) 27 [(0, 27), (1, 27), (2, 27), (3, 27), (4, 27), (5, 27), (6, 27), (7, 27), (8, 27), (9, 27), (10, 27), (11, 27), (12, 27), (13, 27), (14, 27), (15, 27), (16, 27), (17, 27), (18, 27), (19, 27), (20, 27), (21, 27), (22, 27), (23, 27), (24, 27), (25, 27), (26, 27)] hA hcl hav hm hpre rfl rfl rfl rfl rfl
     clear hm hav
     refine yk hA hst ho hcl hmust [] rfl rfl rfl trivial fun a w hS => ?_
     replace hS := hS.env2 (e' := [(0, qL L3 0), (1, .int .u32 L4), (2, .int .i64 L7), (7, .int .i64 L0)]) ⟨rfl, rfl, rfl, rfl, trivial⟩
     refine qe <| qm <| sM hS rfl fun hS => sM hS rfl fun hS => sO hS (shr rfl rfl MK) rfl fun hS => zE (v := Value.int .u32) (x0 := (z9 .u32 L4 L0)) hS (xy rfl) rfl fun Ng a w hz hS => ?_
     have hM := qy hz hM; clear hz
     refine qB <| qm <| sM hS rfl fun hS => sO hS (yw rfl) rfl fun hS => sO hS (xv rfl Tryd.runUnderlying65 rfl Tryd.sizeOf63 rfl) rfl fun hS => sO hS (xv rfl Tryd.runUnderlying63 rfl Tryd.sizeOf3 rfl) rfl fun hS => sO hS (xY 0 rfl MH rfl rfl Tryd.isAgg3) rfl fun hS => sM hS rfl fun hS => sB hS rfl fun hS => sO hS (yw rfl) rfl fun hS => sO hS (xv rfl Tryd.runUnderlying65 rfl Tryd.sizeOf63 rfl) rfl fun hS => sO hS (xv rfl Tryd.runUnderlying63 rfl Tryd.sizeOf3 rfl) rfl fun hS => JC 0 ([.int .i64 (qh (LY + L0)), .slice L6 Mx.length Mi, .slice Ma LZ.literals_.lengths_.length Me, .slice Mb LZ.literals_.codes_.length Mf, .slice Mc LZ.distances_.lengths_.length Mg, .slice Md LZ.distances_.codes_.length Mh]) hS rfl rfl MH rfl rfl rfl rfl Tryd.sizeOf3 fun w Nf MV hS => qB <| zN <| sM hS rfl fun hS => sM hS rfl fun hS => sB hS rfl fun hS => zE (v := Value.int .i64) (x0 := (qh (L7 - L0))) hS (xy rfl) rfl fun Na a w hz hS => ?_
     have hM := qy hz hM; clear hz
     refine zp <| zy (qe ?_)
     exact MW _ _ ⟨(qh (LY + L0)), L6, Mi, Mx, Nd, Nf, Ng, Na, hS.to [0, 1, 2, 3, 4, 5] (by kernel_rfl) ⟨rfl, rfl, rfl, trivial⟩, MZ, MV, hM⟩
   ·refine wp_exit ?_
    refine qE (qE (ze (qe ?_)))
    refine qm <| sA hS rfl fun hS => qB <| wp_ret ?_
    exact zD (rs := [6]) hS rfl rfl (hret (0 : Int) LY Mn Mp L5 Mu Mv _ (q7 hM) Mw Mj (hS.st.pick [0, 1, 2, 3, 4, 5] (by kernel_rfl)))
theorem yp {H : xR} {F : List qk} {w : World} {R : Ending → World → Prop} {kr : (Int × (List Int)) → Prop} {kp : Value → Prop} (hG : Gl H) (K : Nat) (LY : qp) (MK : qv) (LZ : Int) (L3 : Nat) (Mu : qk) (Ms : Option Addr) (Mt : Nat) (Mv : qk) (L8 : Option Addr) (L9 : Nat) (Ma : qk) (L4 : Option Addr) (L6 : Nat) (Mb : qk) (Me : Option Addr) (Mh : Nat) (Mc : qk) (Mf : Option Addr) (Mi : Nat) (Md : qk) (ML : xJ Mu L3 ([.int .i64 LY.Writer_.place_.at_, .slice Ms LY.Writer_.bytes_.length Mt, .slice L8 LY.literals_.lengths_.length L9, .slice L4 LY.literals_.codes_.length L6, .slice Me LY.distances_.lengths_.length Mh, .slice Mf LY.distances_.codes_.length Mi]) 70) (MN : xi 5 (ci .u8) 1 Ms LY.Writer_.bytes_ Mt Mv) (Mm : xi 3 (ci .i64) 1 L8 LY.literals_.lengths_ L9 Ma) (Mn : xi 3 (ci .i64) 1 L4 LY.literals_.codes_ L6 Mb) (MO : xi 3 (ci .i64) 1 Me LY.distances_.lengths_ Mh Mc) (MP : xi 3 (ci .i64) 1 Mf LY.distances_.codes_ Mi Md)
    (hS : St w H [Mu, Mv, Ma, Mb, Mc, Md] F) (hm : (zL.m K LY MK LZ).wp kr kp)
    (hret : ∀ (Mp : Int) (MC : Option Addr) (MD : Nat) (L7 : (List Int)) (MH : qk) (MI : qk) (w : World), kr (Mp, L7) → (xi 5 (ci .u8) 1 MC L7 MD MH) → (xJ MI L3 ([.int .i64 Mp, .slice MC L7.length MD, .slice L8 LY.literals_.lengths_.length L9, .slice L4 LY.literals_.codes_.length L6, .slice Me LY.distances_.lengths_.length Mh, .slice Mf LY.distances_.codes_.length Mi]) 70) → St w H [MI, MH, Ma, Mb, Mc, Md] F → R (.returned (.tuple ⟨[]⟩)) w) :
    Calls Tryd.prog 39 ⟨[qL L3 0, .agg ⟨[.slice L8 LY.literals_.lengths_.length L9, .slice L4 LY.literals_.codes_.length L6]⟩, .int .i64 LZ]⟩ w R := by
 refine enter Tryd.func39 rfl Tryd.ntmps39 rfl hS fun a w hS => ?_
 have hM := hm; clear hm
 rw [zL.m] at hM
 refine qm <| bx ([.slice L8 LY.literals_.lengths_.length L9, .slice L4 LY.literals_.codes_.length L6]) hS rfl rfl rfl fun w Mq ME Mw hS => qB <| qm <| sO hS (xv rfl Tryd.runUnderlying68 rfl Tryd.sizeOf66 rfl) rfl fun hS => sO hS (xY 0 rfl Mw rfl rfl Tryd.isAgg66) rfl fun hS => sM hS rfl fun hS => ?_
 obtain ⟨Mz, hM⟩ := qK hM
 refine sO hS (yu rfl rfl Tryd.runUnderlying66 Tryd.sizeOf3 (Mm.rd (i := 3) rfl) (fun _ => rfl) rfl Mz) rfl fun hS => sO hS (yD rfl (Mm.rd (i := 3) rfl) (fun _ => rfl) Mz rfl Tryd.isAgg3) rfl fun hS => sB hS rfl fun hS => zE (v := Value.int .i64) (x0 := (qh ((rd LY.literals_.lengths_ LZ) - (1 : Int)))) hS (xy rfl) rfl fun MW a w hz hS => ?_
 have hM := qy hz hM; clear hz
 refine qB <| xO <| zu (fun MJ a w => ∃ (L5 : Int) (Mg : Option Addr) (Mj : Nat) (L0 : (List Int)) (Mk : qk) (Ml : qk) (L1 : Int), Ss 30 [] [(0, qL L3 0), (2, .int .i64 LZ), (4, qL Mq 0), (6, .int .i64 L1)] H [Ml, Mk, Ma, Mb, Mc, Md, ME] F a w ∧ (xi 5 (ci .u8) 1 Mg L0 Mj Mk) ∧ (xJ Ml L3 ([.int .i64 L5, .slice Mg L0.length Mj, .slice L8 LY.literals_.lengths_.length L9, .slice L4 LY.literals_.codes_.length L6, .slice Me LY.distances_.lengths_.length Mh, .slice Mf LY.distances_.codes_.length Mi]) 70) ∧ (zL.l1 K LY LZ MJ L5 L0 L1).wp kr kp) K ?_ ?_ ?_
 ·exact ⟨LY.Writer_.place_.at_, Ms, Mt, LY.Writer_.bytes_, Mv, Mu, MW, hS.to [1, 2, 3, 4, 5, 6, 0] (by kernel_rfl) ⟨rfl, rfl, rfl, rfl, trivial⟩, MN, ML, hM⟩
 ·intro a w hI; obtain ⟨_, _, _, _, _, _, _, _, _, _, hM⟩ := hI; exact zt hM
 ·intro MJ a w hI MZ MM
  obtain ⟨L5, Mg, Mj, L0, Mk, Ml, L1, hS, My, Mx, hM⟩ := hI
  rw [zL.l1] at hM
  refine wp_seq <| qm <| sM hS rfl fun hS => sB hS rfl fun hS => qB <| qG hS rfl hM (fun MQ hM => ?_) (fun MQ hM => ?_)
  ·refine wp_skip ?_
   refine qe <| wp_seq <| xO ?_
   obtain ⟨MA, hM⟩ := qK hM
   obtain ⟨MR, hM⟩ := qK hM
   refine za (vals := [some (qL L3 0), some (qL L3 0), some (qL L3 0), some (qL Mq 1), some (.slice L4 LY.literals_.codes_.length L6), some (.int .i64 LZ), some (xG L4 (Int.toNat LZ * 1)), some (.int .i64 (rd LY.literals_.codes_ LZ)), some (.int .i64 L1), some (.int .i64 (z9 .i64 (rd LY.literals_.codes_ LZ) L1)), some (.int .i64 (xD .i64 (z9 .i64 (rd LY.literals_.codes_ LZ) L1) (1 : Int))), some (.int .u32 (wr .u32 (xD .i64 (z9 .i64 (rd LY.literals_.codes_ LZ) L1) (1 : Int)))), none]) hS xE rfl ?_
   intro l w ho hcl hA hst
   refine y9 hA hst ho hcl xx xF 12 [0, 1, 2, 3, 4, 5, 6, 7, 8, 9, 10, 11] rfl rfl rfl rfl rfl (by exact ⟨nM rfl, nQ rfl (by exact qX (yw rfl) rfl), nQ rfl (by exact qX (xv rfl Tryd.runUnderlying70 rfl Tryd.sizeOf65 rfl) rfl), nQ rfl (by exact qX (xv rfl Tryd.runUnderlying68 rfl Tryd.sizeOf66 rfl) rfl), nQ rfl (by exact qX (xY 6 rfl Mw rfl rfl Tryd.isAgg66) rfl), nM rfl, nQ rfl (by exact qX (yu rfl rfl Tryd.runUnderlying66 Tryd.sizeOf3 (Mn.rd (i := 3) rfl) (fun _ => rfl) rfl MA) rfl), nQ rfl (by exact qX (yD rfl (Mn.rd (i := 3) rfl) (fun _ => rfl) MA rfl Tryd.isAgg3) rfl), nM rfl, nQ rfl (by exact qX (shr rfl rfl MR) rfl), nB rfl, nQ rfl (by exact qX (vU rfl Tryd.runUnderlying3 Tryd.runUnderlying25) rfl), trivial⟩) fun D l a w ho hcl hav hpre hm hE hk hA hst => ?_
   have hS := (Ss.mk hE hst).env2 (e' := [(19, qL L3 0), (28, .int .u32 (wr .u32 (xD .i64 (z9 .i64 (rd LY.literals_.codes_ LZ) L1) (1 : Int))))]) ⟨rfl, rfl, trivial⟩
   refine qQ rfl <| qF hS rfl Tryd.call30 (zk hG K (qp.mk (qR.mk (qr.mk L5) L0) LY.literals_ LY.distances_) (wr .u32 (xD .i64 (z9 .i64 (rd LY.literals_.codes_ LZ) L1) (1 : Int))) (1 : Int) L3 Ml Mg Mj Mk L8 L9 Ma L4 L6 Mb Me Mh Mc Mf Mi Md Mx My Mm Mn MO MP (hS.st.part 6 [0, 1, 2, 3, 4, 5, 6] (by kernel_rfl)) (qs hM) (fun MY MB MS MT Mr MF MG w hM MU MV hst => qA hS.ev hst.appF rfl fun hS => ?_))
   replace hS : Ss _ _ _ H [MG, MF, Ma, Mb, Mc, Md, ME] F _ _ := hS
   refine qB ?_
   replace hst := hS.st
   obtain ⟨hcl, hmust, hav2, hA⟩ := dn (vals' := [some (qL L3 0), some (qL L3 0), some (qL L3 0), some (qL Mq 1), some (.slice L4 LY.literals_.codes_.length L6), some (.int .i64 LZ), some (xG L4 (Int.toNat LZ * 1)), some (.int .i64 (rd LY.literals_.codes_ LZ)), some (.int .i64 L1), some (.int .i64 (z9 .i64 (rd LY.literals_.codes_ LZ) L1)), some (.int .i64 (xD .i64 (z9 .i64 (rd LY.literals_.codes_ LZ) L1) (1 : Int))), some (.int .u32 (wr .u32 (xD .i64 (z9 .i64 (rd LY.literals_.codes_ LZ) L1) (1 : Int)))), some (.int .i64 MY)]) 12 [(2, 12), (11, 12), (1, 2), (10, 11), (0, 1), (9, 10), (7, 9), (8, 9), (6, 7), (4, 6), (5, 6), (3, 4)] hA hcl hav hm hpre hk rfl rfl rfl rfl rfl rfl rfl
   clear hm hav
   refine yk hA hst ho hcl hmust [] rfl rfl rfl trivial fun a w hS => ?_
   replace hS := hS.env2 (e' := [(0, qL L3 0), (2, .int .i64 LZ), (4, qL Mq 0), (6, .int .i64 L1)]) ⟨rfl, rfl, rfl, rfl, trivial⟩
   refine zy (qe ?_)
   refine zN <| sM hS rfl fun hS => sB hS rfl fun hS => zE (v := Value.int .i64) (x0 := (qh (L1 - (1 : Int)))) hS (xy rfl) rfl fun MX a w hz hS => ?_
   have hM := qy hz hM; clear hz
   refine zp <| qe ?_
   exact MM _ _ ⟨MB, MS, MT, Mr, MF, MG, MX, hS.to [0, 1, 2, 3, 4, 5, 6] (by kernel_rfl) ⟨rfl, rfl, rfl, rfl, trivial⟩, MU, MV, hM⟩
  ·refine wp_exit ?_
   refine qE (qE (ze ?_))
   exact jE (rs := []) hS rfl rfl (hret L5 Mg Mj L0 Mk Ml _ (q7 hM) My Mx (hS.st.pick [0, 1, 2, 3, 4, 5] (by kernel_rfl)))
theorem v4 {H : xR} {F : List qk} {w : World} {R : Ending → World → Prop} {kr : (Int × Int × Int) → Prop} {kp : Value → Prop} (hG : Gl H) (K : Nat) (L1 : Int) (L0 : Int)
    (hS : St w H [] F) (hm : (z4.m K L1 L0).wp kr kp)
    (hret : ∀ (L5 : Int) (L6 : Int) (L7 : Int) (w : World), kr (L5, L6, L7) → St w H [] F → R (.returned (.agg ⟨[.int .i64 L5, .int .i64 L6, .int .u32 L7]⟩)) w) :
    Calls Tryd.prog 51 ⟨[.int .i64 L1, .int .i64 L0]⟩ w R := by
 refine enter Tryd.func51 rfl Tryd.ntmps51 rfl hS fun a w hS => ?_
 have hM := hm; clear hm
 rw [z4.m] at hM
 refine qm <| Qf ([.int .i64 (0 : Int), .int .i64 (0 : Int), .int .u32 (0 : Int)]) hS Tryd.zeroValue77 rfl rfl fun w L8 Ma Mc hS => qB <| qm <| sM hS rfl fun hS => sA hS rfl fun hS => sA hS rfl fun hS => qB <| zj (fun a w => ∃ (LY : Int) (LZ : Int), Ss 29 [] [(0, .int .i64 L1), (1, .int .i64 L0), (4, qL L8 0), (5, .int .i64 LY), (6, .int .i64 LZ)] H [Ma] F a w ∧ (z4.j2 K L1 L0 LY LZ).wp kr kp) (fun Mm Mf => ?_) ?_
 ·refine xO ?_
  refine zu (fun Mb a w => ∃ (L4 : Int) (L3 : Int), Ss 29 [] [(0, .int .i64 L1), (1, .int .i64 L0), (4, qL L8 0), (5, .int .i64 L4), (6, .int .i64 L3)] H [Ma] F a w ∧ (z4.l1 K L1 L0 Mb L4 L3).wp kr kp) K ?_ ?_ ?_
  ·exact ⟨(0 : Int), L1, hS.to [0] (by kernel_rfl) ⟨rfl, rfl, rfl, rfl, rfl, trivial⟩, hM⟩
  ·intro a w hI; obtain ⟨_, _, _, hM⟩ := hI; exact zt hM
  ·intro Mb a w hI Ml Me
   obtain ⟨L4, L3, hS, hM⟩ := hI
   rw [z4.l1] at hM
   refine wp_seq <| qm <| sM hS rfl fun hS => sM hS rfl fun hS => ?_
   obtain ⟨Mh, hM⟩ := qK hM
   refine sO hS (shl rfl rfl Mh) rfl fun hS => sB hS rfl fun hS => qB <| qG hS rfl hM (fun Mg hM => ?_) (fun Mg hM => ?_)
   ·refine wp_skip ?_
    refine qe <| xO <| qm <| sM hS rfl fun hS => sO hS (shr rfl rfl rfl) rfl fun hS => zE (v := Value.int .i64) (x0 := (z9 .i64 L3 (1 : Int))) hS (xy rfl) rfl fun L9 a w hz hS => ?_
    have hM := qy hz hM; clear hz
    refine qB <| zN <| sM hS rfl fun hS => sB hS rfl fun hS => zE (v := Value.int .i64) (x0 := (qh (L4 + (1 : Int)))) hS (xy rfl) rfl fun Mk a w hz hS => ?_
    have hM := qy hz hM; clear hz
    refine zp <| zy (qe ?_)
    exact Me _ _ ⟨Mk, L9, hS.to [0] (by kernel_rfl) ⟨rfl, rfl, rfl, rfl, rfl, trivial⟩, hM⟩
   ·refine wp_exit ?_
    refine qE (qE (ze (qe ?_)))
    exact Mf _ _ ⟨L4, L3, hS.to [0] (by kernel_rfl) ⟨rfl, rfl, rfl, rfl, rfl, trivial⟩, hM⟩
 ·intro a w hI
  obtain ⟨LY, LZ, hS, hM⟩ := hI
  rw [z4.j2] at hM
  refine wp_seq ?_
  obtain ⟨Mi, hM⟩ := qK hM
  obtain ⟨Mj, hM⟩ := qK hM
  refine za (vals := [some (.int .i64 LY), some (.int .i64 L0), some (.int .i64 (z6 .i64 LY L0)), some (.int .i64 LZ), some (.int .i64 (qh ((z6 .i64 LY L0) + LZ))), some (.int .i64 LY), some (.int .i64 L1), some (.int .i64 LZ), some (.int .i64 LY), some (.int .i64 (z6 .i64 LZ LY)), some (.int .i64 (qh (L1 - (z6 .i64 LZ LY)))), some (.int .u32 (wr .u32 (qh (L1 - (z6 .i64 LZ LY))))), some (.agg ⟨[.int .i64 (qh ((z6 .i64 LY L0) + LZ)), .int .i64 LY, .int .u32 (wr .u32 (qh (L1 - (z6 .i64 LZ LY))))]⟩), none]) hS xE rfl ?_
  intro l w ho hcl hA hst
  refine y9 hA hst ho hcl xx xF 13 [0, 1, 2, 3, 4, 5, 6, 7, 8, 9, 10, 11, 12] rfl rfl rfl rfl rfl (by exact ⟨nM rfl, nM rfl, nQ rfl (by exact qX (shl rfl rfl Mi) rfl), nM rfl, nB rfl, nM rfl, nM rfl, nM rfl, nM rfl, nQ rfl (by exact qX (shl rfl rfl Mj) rfl), nB rfl, nQ rfl (by exact qX (vU rfl Tryd.runUnderlying3 Tryd.runUnderlying25) rfl), nQ rfl (by exact qX (Z9 ([.int .i64 (qh ((z6 .i64 LY L0) + LZ)), .int .i64 LY, .int .u32 (wr .u32 (qh (L1 - (z6 .i64 LZ LY))))]) [(0, 1), (1, 1), (2, 1)] Tryd.zeroValue77 Tryd.runUnderlying77 (by intro w; simp [Tryd.sizeOf25, Tryd.sizeOf3]) rfl rfl) rfl), trivial⟩) fun D l a w ho hcl hav hpre hm hE hk hA hst => ?_
  have hS := (Ss.mk hE hst).env2 (e' := [(4, qL L8 0), (28, .agg ⟨[.int .i64 (qh ((z6 .i64 LY L0) + LZ)), .int .i64 LY, .int .u32 (wr .u32 (qh (L1 - (z6 .i64 LZ LY))))]⟩)]) ⟨rfl, rfl, trivial⟩
  refine qQ rfl <| Qs 0 ([.int .i64 (qh ((z6 .i64 LY L0) + LZ)), .int .i64 LY, .int .u32 (wr .u32 (qh (L1 - (z6 .i64 LZ LY))))]) ([.int .i64 (qh ((z6 .i64 LY L0) + LZ)), .int .i64 LY, .int .u32 (wr .u32 (qh (L1 - (z6 .i64 LZ LY))))]) hS rfl rfl Mc rfl rfl Tryd.sizeOf77 (by simp [Value.oneCell']) (Nat.le_of_ble_eq_true rfl) rfl fun w Mn Md hS => qB ?_
  replace hst := hS.st
  obtain ⟨hcl, hmust, hav2, hA⟩ := Xx (vals' := [some (.int .i64 LY), some (.int .i64 L0), some (.int .i64 (z6 .i64 LY L0)), some (.int .i64 LZ), some (.int .i64 (qh ((z6 .i64 LY L0) + LZ))), some (.int .i64 LY), some (.int .i64 L1), some (.int .i64 LZ), some (.int .i64 LY), some (.int .i64 (z6 .i64 LZ LY)), some (.int .i64 (qh (L1 - (z6 .i64 LZ LY)))), some (.int .u32 (wr .u32 (qh (L1 - (z6 .i64 LZ LY))))), some (.agg ⟨[.int .i64 (qh ((z6 .i64 LY L0) + LZ)), .int .i64 LY, .int .u32 (wr .u32 (qh (L1 - (z6 .i64 LZ LY))))]⟩), some undef]) 13 [(0, 13), (1, 13), (2, 13), (3, 13), (4, 13), (5, 13), (6, 13), (7, 13), (8, 13), (9, 13), (10, 13), (11, 13), (12, 13)] hA hcl hav hm hpre rfl rfl rfl rfl rfl
  clear hm hav
  refine yk hA hst ho hcl hmust [] rfl rfl rfl trivial fun a w hS => ?_
  replace hS := hS.env2 (e' := [(4, qL L8 0)]) ⟨rfl, trivial⟩
  refine qe <| wp_ret ?_
  exact jc (vs := [.agg ⟨[.int .i64 (qh ((z6 .i64 LY L0) + LZ)), .int .i64 LY, .int .u32 (wr .u32 (qh (L1 - (z6 .i64 LZ LY))))]⟩]) hS rfl (by exact ⟨UE 0 ([.int .i64 (qh ((z6 .i64 LY L0) + LZ)), .int .i64 LY, .int .u32 (wr .u32 (qh (L1 - (z6 .i64 LZ LY))))]) rfl Md rfl rfl rfl Tryd.isAgg77 Tryd.sizeOf77, trivial⟩) (hret (qh ((z6 .i64 LY L0) + LZ)) LY (wr .u32 (qh (L1 - (z6 .i64 LZ LY)))) _ (q7 hM) (hS.st.pick [] (by kernel_rfl)))
theorem v3 {H : xR} {F : List qk} {w : World} {R : Ending → World → Prop} {kr : (Int × Int × Int) → Prop} {kp : Value → Prop} (hG : Gl H) (K : Nat) (L5 : Int)
    (hS : St w H [] F) (hm : (yL.m K L5).wp kr kp)
    (hret : ∀ (L1 : Int) (L3 : Int) (L4 : Int) (w : World), kr (L1, L3, L4) → St w H [] F → R (.returned (.agg ⟨[.int .i64 L1, .int .i64 L3, .int .u32 L4]⟩)) w) :
    Calls Tryd.prog 33 ⟨[.int .i64 L5]⟩ w R := by
 refine enter Tryd.func33 rfl Tryd.ntmps33 rfl hS fun a w hS => ?_
 have hM := hm; clear hm
 rw [yL.m] at hM
 refine qm <| Qf ([.int .i64 (0 : Int), .int .i64 (0 : Int), .int .u32 (0 : Int)]) hS Tryd.zeroValue77 rfl rfl fun w Me Md L6 hS => qB <| wp_seq <| qm <| sM hS rfl fun hS => sB hS rfl fun hS => qB <| qG hS rfl hM (fun Mc hM => ?_) (fun Mc hM => ?_)
 ·refine wp_seq ?_
  refine zN <| sO hS (Z9 ([.int .i64 (285 : Int), .int .i64 (0 : Int), .int .u32 (0 : Int)]) [(0, 1), (1, 1), (2, 1)] Tryd.zeroValue77 Tryd.runUnderlying77 (by intro w; simp [Tryd.sizeOf25, Tryd.sizeOf3]) rfl rfl) rfl fun hS => Qs 0 ([.int .i64 (285 : Int), .int .i64 (0 : Int), .int .u32 (0 : Int)]) ([.int .i64 (285 : Int), .int .i64 (0 : Int), .int .u32 (0 : Int)]) hS rfl rfl L6 rfl rfl Tryd.sizeOf77 (by simp [Value.oneCell']) (Nat.le_of_ble_eq_true rfl) rfl fun w Mg L8 hS => qB <| wp_ret <| zm ?_
  exact jc (vs := [.agg ⟨[.int .i64 (285 : Int), .int .i64 (0 : Int), .int .u32 (0 : Int)]⟩]) hS rfl (by exact ⟨UE 0 ([.int .i64 (285 : Int), .int .i64 (0 : Int), .int .u32 (0 : Int)]) rfl L8 rfl rfl rfl Tryd.isAgg77 Tryd.sizeOf77, trivial⟩) (hret (285 : Int) (0 : Int) (0 : Int) _ (q7 hM) (hS.st.pick [] (by kernel_rfl)))
 ·refine wp_skip ?_
  refine qe <| qm <| sM hS rfl fun hS => sB hS rfl fun hS => qF hS rfl Tryd.call51 (v4 hG K (qh (L5 - (3 : Int))) (2 : Int) (hS.st.part 0 [0] (by kernel_rfl)) (qs hM) (fun LY LZ L0 w hM  hst => qA hS.ev hst.appF rfl fun hS => ?_))
  replace hS : Ss _ _ _ H [Md] F _ _ := hS
  refine Qf ([.int .i64 (0 : Int), .int .i64 (0 : Int), .int .u32 (0 : Int)]) hS Tryd.zeroValue77 rfl rfl fun w Mf Mh L9 hS => Qs 0 ([.int .i64 LY, .int .i64 LZ, .int .u32 L0]) ([.int .i64 LY, .int .i64 LZ, .int .u32 L0]) hS rfl rfl L9 rfl rfl Tryd.sizeOf77 (by simp [Value.oneCell']) (Nat.le_of_ble_eq_true rfl) rfl fun w Mi L7 hS => qB <| qm <| sO hS (xv rfl Tryd.runUnderlying77 rfl Tryd.sizeOf3 rfl) rfl fun hS => sO hS (xY 0 rfl L7 rfl rfl Tryd.isAgg3) rfl fun hS => sB hS rfl fun hS => sO hS (xv rfl Tryd.runUnderlying77 rfl Tryd.sizeOf3 rfl) rfl fun hS => JC 0 ([.int .i64 (qh (LY + (257 : Int))), .int .i64 LZ, .int .u32 L0]) hS rfl rfl L7 rfl rfl rfl rfl Tryd.sizeOf3 fun w Mj Ma hS => qB <| qm <| sO hS (ut 0 rfl Ma rfl ([.int .i64 (qh (LY + (257 : Int))), .int .i64 LZ, .int .u32 L0]) rfl rfl Tryd.isAgg77 Tryd.sizeOf77) rfl fun hS => Qs 1 ([.int .i64 (qh (LY + (257 : Int))), .int .i64 LZ, .int .u32 L0]) ([.int .i64 (qh (LY + (257 : Int))), .int .i64 LZ, .int .u32 L0]) hS rfl rfl L6 rfl rfl Tryd.sizeOf77 (by simp [Value.oneCell']) (Nat.le_of_ble_eq_true rfl) rfl fun w Mk Mb hS => qB <| wp_ret ?_
  exact jc (vs := [.agg ⟨[.int .i64 (qh (LY + (257 : Int))), .int .i64 LZ, .int .u32 L0]⟩]) hS rfl (by exact ⟨UE 1 ([.int .i64 (qh (LY + (257 : Int))), .int .i64 LZ, .int .u32 L0]) rfl Mb rfl rfl rfl Tryd.isAgg77 Tryd.sizeOf77, trivial⟩) (hret (qh (LY + (257 : Int))) LZ L0 _ (q7 hM) (hS.st.pick [] (by kernel_rfl)))
theorem vt {H : xR} {F : List qk} {w : World} {R : Ending → World → Prop} {kr : (Int × (List Int)) → Prop} {kp : Value → Prop} (hG : Gl H) (K : Nat) (LY : qp) (MF : qv) (LZ : xT) (L0 : Nat) (Mm : qk) (Mk : Option Addr) (Ml : Nat) (Mn : qk) (L3 : Option Addr) (L5 : Nat) (L7 : qk) (L4 : Option Addr) (L6 : Nat) (L8 : qk) (Mb : Option Addr) (Md : Nat) (L9 : qk) (Mc : Option Addr) (Me : Nat) (Ma : qk) (MG : xJ Mm L0 ([.int .i64 LY.Writer_.place_.at_, .slice Mk LY.Writer_.bytes_.length Ml, .slice L3 LY.literals_.lengths_.length L5, .slice L4 LY.literals_.codes_.length L6, .slice Mb LY.distances_.lengths_.length Md, .slice Mc LY.distances_.codes_.length Me]) 70) (MI : xi 5 (ci .u8) 1 Mk LY.Writer_.bytes_ Ml Mn) (Mp : xi 3 (ci .i64) 1 L3 LY.literals_.lengths_ L5 L7) (Mq : xi 3 (ci .i64) 1 L4 LY.literals_.codes_ L6 L8) (Mr : xi 3 (ci .i64) 1 Mb LY.distances_.lengths_ Md L9) (Ms : xi 3 (ci .i64) 1 Mc LY.distances_.codes_ Me Ma)
    (hS : St w H [Mm, Mn, L7, L8, L9, Ma] F) (hm : (ye.m K LY MF LZ).wp kr kp)
    (hret : ∀ (Mg : Int) (Mv : Option Addr) (Mw : Nat) (L1 : (List Int)) (MD : qk) (ME : qk) (w : World), kr (Mg, L1) → (xi 5 (ci .u8) 1 Mv L1 Mw MD) → (xJ ME L0 ([.int .i64 Mg, .slice Mv L1.length Mw, .slice L3 LY.literals_.lengths_.length L5, .slice L4 LY.literals_.codes_.length L6, .slice Mb LY.distances_.lengths_.length Md, .slice Mc LY.distances_.codes_.length Me]) 70) → St w H [ME, MD, L7, L8, L9, Ma] F → R (.returned (.tuple ⟨[]⟩)) w) :
    Calls Tryd.prog 50 ⟨[qL L0 0, .agg ⟨[.slice L3 LY.literals_.lengths_.length L5, .slice L4 LY.literals_.codes_.length L6]⟩, .agg ⟨[.int .i64 LZ.symbol_, .int .i64 LZ.bits_, .int .u32 LZ.more_]⟩]⟩ w R := by
 refine enter Tryd.func50 rfl Tryd.ntmps50 rfl hS fun a w hS => ?_
 have hM := hm; clear hm
 rw [ye.m] at hM
 refine qm <| bx ([.slice L3 LY.literals_.lengths_.length L5, .slice L4 LY.literals_.codes_.length L6]) hS rfl rfl rfl fun w MS Mx MH hS => bx ([.int .i64 LZ.symbol_, .int .i64 LZ.bits_, .int .u32 LZ.more_]) hS rfl rfl rfl fun w Mh My Mf hS => qB <| qm <| sM hS rfl fun hS => sO hS (ut 1 rfl MH rfl ([.slice L3 LY.literals_.lengths_.length L5, .slice L4 LY.literals_.codes_.length L6]) rfl rfl Tryd.isAgg68 Tryd.sizeOf68) rfl fun hS => sO hS (xv rfl Tryd.runUnderlying77 rfl Tryd.sizeOf3 rfl) rfl fun hS => sO hS (xY 0 rfl Mf rfl rfl Tryd.isAgg3) rfl fun hS => qF hS rfl Tryd.call39 (yp hG K LY LY.literals_ LZ.symbol_ L0 Mm Mk Ml Mn L3 L5 L7 L4 L6 L8 Mb Md L9 Mc Me Ma MG MI Mp Mq Mr Ms (hS.st.part 6 [2, 3, 4, 5, 6, 7, 0, 1] (by kernel_rfl)) (qs hM) (fun Mt MJ ML Mi Mz MA w hM MN MO hst => qA hS.ev hst.appF rfl fun hS => ?_))
 replace hS : Ss _ _ _ H [MA, Mz, L7, L8, L9, Ma, My, Mx] F _ _ := hS
 refine qB <| za (vals := [some (qL L0 0), some (qL L0 0), some (qL L0 0), some (qL Mh 2), some (.int .u32 LZ.more_), some (qL Mh 1), some (.int .i64 LZ.bits_), none]) hS xE rfl ?_
 intro l w ho hcl hA hst
 refine y9 hA hst ho hcl xx xF 7 [0, 1, 2, 3, 4, 5, 6] rfl rfl rfl rfl rfl (by exact ⟨nM rfl, nQ rfl (by exact qX (yw rfl) rfl), nQ rfl (by exact qX (xv rfl Tryd.runUnderlying70 rfl Tryd.sizeOf65 rfl) rfl), nQ rfl (by exact qX (xv rfl Tryd.runUnderlying77 rfl Tryd.sizeOf25 rfl) rfl), nQ rfl (by exact qX (xY 6 rfl Mf rfl rfl Tryd.isAgg25) rfl), nQ rfl (by exact qX (xv rfl Tryd.runUnderlying77 rfl Tryd.sizeOf3 rfl) rfl), nQ rfl (by exact qX (xY 6 rfl Mf rfl rfl Tryd.isAgg3) rfl), trivial⟩) fun D l a w ho hcl hav hpre hm hE hk hA hst => ?_
 have hS := (Ss.mk hE hst).env2 (e' := [(13, qL L0 0), (15, .int .u32 LZ.more_), (17, .int .i64 LZ.bits_)]) ⟨rfl, rfl, rfl, trivial⟩
 refine qQ rfl <| qF hS rfl Tryd.call30 (zk hG K (qp.mk (qR.mk (qr.mk Mt) Mi) LY.literals_ LY.distances_) LZ.more_ LZ.bits_ L0 MA MJ ML Mz L3 L5 L7 L4 L6 L8 Mb Md L9 Mc Me Ma MO MN Mp Mq Mr Ms (hS.st.part 6 [0, 1, 2, 3, 4, 5, 6, 7] (by kernel_rfl)) (qs hM) (fun MR Mu MK MM Mj MB MC w hM MP MQ hst => qA hS.ev hst.appF rfl fun hS => ?_))
 replace hS : Ss _ _ _ H [MC, MB, L7, L8, L9, Ma, My, Mx] F _ _ := hS
 refine qB ?_
 replace hst := hS.st
 obtain ⟨hcl, hmust, hav2, hA⟩ := dn (vals' := [some (qL L0 0), some (qL L0 0), some (qL L0 0), some (qL Mh 2), some (.int .u32 LZ.more_), some (qL Mh 1), some (.int .i64 LZ.bits_), some (.int .i64 MR)]) 7 [(2, 7), (4, 7), (6, 7), (1, 2), (3, 4), (5, 6), (0, 1)] hA hcl hav hm hpre hk rfl rfl rfl rfl rfl rfl rfl
 clear hm hav
 refine yk hA hst ho hcl hmust [] rfl rfl rfl trivial fun a w hS => ?_
 replace hS := hS.env2 (e' := []) trivial
 exact jE (rs := []) hS rfl rfl (hret Mu MK MM Mj MB MC _ (q7 hM) MP MQ (hS.st.pick [0, 1, 2, 3, 4, 5] (by kernel_rfl)))
theorem vp {H : xR} {F : List qk} {w : World} {R : Ending → World → Prop} {kr : (Int × Int × Int) → Prop} {kp : Value → Prop} (hG : Gl H) (K : Nat) (L5 : Int)
    (hS : St w H [] F) (hm : (yx.m K L5).wp kr kp)
    (hret : ∀ (L1 : Int) (L3 : Int) (L4 : Int) (w : World), kr (L1, L3, L4) → St w H [] F → R (.returned (.agg ⟨[.int .i64 L1, .int .i64 L3, .int .u32 L4]⟩)) w) :
    Calls Tryd.prog 34 ⟨[.int .i64 L5]⟩ w R := by
 refine enter Tryd.func34 rfl Tryd.ntmps34 rfl hS fun a w hS => ?_
 have hM := hm; clear hm
 rw [yx.m] at hM
 refine qm <| Qf ([.int .i64 (0 : Int), .int .i64 (0 : Int), .int .u32 (0 : Int)]) hS Tryd.zeroValue77 rfl rfl fun w L9 L8 L6 hS => qB <| qm <| sM hS rfl fun hS => sB hS rfl fun hS => qF hS rfl Tryd.call51 (v4 hG K (qh (L5 - (1 : Int))) (1 : Int) (hS.st.part 0 [0] (by kernel_rfl)) (qs hM) (fun LY LZ L0 w hM  hst => qA hS.ev hst.appF rfl fun hS => ?_))
 replace hS : Ss _ _ _ H [L8] F _ _ := hS
 refine Qs 0 ([.int .i64 LY, .int .i64 LZ, .int .u32 L0]) ([.int .i64 LY, .int .i64 LZ, .int .u32 L0]) hS rfl rfl L6 rfl rfl Tryd.sizeOf77 (by simp [Value.oneCell']) (Nat.le_of_ble_eq_true rfl) rfl fun w Ma L7 hS => qB <| wp_ret ?_
 exact jc (vs := [.agg ⟨[.int .i64 LY, .int .i64 LZ, .int .u32 L0]⟩]) hS rfl (by exact ⟨UE 0 ([.int .i64 LY, .int .i64 LZ, .int .u32 L0]) rfl L7 rfl rfl rfl Tryd.isAgg77 Tryd.sizeOf77, trivial⟩) (hret LY LZ L0 _ (q7 hM) (hS.st.pick [] (by kernel_rfl)))
theorem j0 {H : xR} {F : List qk} {w : World} {R : Ending → World → Prop} {kr : (Int × (List Int)) → Prop} {kp : Value → Prop} (hG : Gl H) (K : Nat) (LY : qp) (MK : qv) (LZ : Int) (L3 : Nat) (Mu : qk) (Ms : Option Addr) (Mt : Nat) (Mv : qk) (Me : Option Addr) (Mh : Nat) (Ma : qk) (Mf : Option Addr) (Mi : Nat) (Mb : qk) (L8 : Option Addr) (L9 : Nat) (Mc : qk) (L4 : Option Addr) (L6 : Nat) (Md : qk) (ML : xJ Mu L3 ([.int .i64 LY.Writer_.place_.at_, .slice Ms LY.Writer_.bytes_.length Mt, .slice Me LY.literals_.lengths_.length Mh, .slice Mf LY.literals_.codes_.length Mi, .slice L8 LY.distances_.lengths_.length L9, .slice L4 LY.distances_.codes_.length L6]) 70) (MN : xi 5 (ci .u8) 1 Ms LY.Writer_.bytes_ Mt Mv) (MO : xi 3 (ci .i64) 1 Me LY.literals_.lengths_ Mh Ma) (MP : xi 3 (ci .i64) 1 Mf LY.literals_.codes_ Mi Mb) (Mm : xi 3 (ci .i64) 1 L8 LY.distances_.lengths_ L9 Mc) (Mn : xi 3 (ci .i64) 1 L4 LY.distances_.codes_ L6 Md)
    (hS : St w H [Mu, Mv, Ma, Mb, Mc, Md] F) (hm : (z1.m K LY MK LZ).wp kr kp)
    (hret : ∀ (Mp : Int) (MC : Option Addr) (MD : Nat) (L7 : (List Int)) (MH : qk) (MI : qk) (w : World), kr (Mp, L7) → (xi 5 (ci .u8) 1 MC L7 MD MH) → (xJ MI L3 ([.int .i64 Mp, .slice MC L7.length MD, .slice Me LY.literals_.lengths_.length Mh, .slice Mf LY.literals_.codes_.length Mi, .slice L8 LY.distances_.lengths_.length L9, .slice L4 LY.distances_.codes_.length L6]) 70) → St w H [MI, MH, Ma, Mb, Mc, Md] F → R (.returned (.tuple ⟨[]⟩)) w) :
    Calls Tryd.prog 39 ⟨[qL L3 0, .agg ⟨[.slice L8 LY.distances_.lengths_.length L9, .slice L4 LY.distances_.codes_.length L6]⟩, .int .i64 LZ]⟩ w R := by
 refine enter Tryd.func39 rfl Tryd.ntmps39 rfl hS fun a w hS => ?_
 have hM := hm; clear hm
 rw [z1.m] at hM
 refine qm <| bx ([.slice L8 LY.distances_.lengths_.length L9, .slice L4 LY.distances_.codes_.length L6]) hS rfl rfl rfl fun w Mq ME Mw hS => qB <| qm <| sO hS (xv rfl Tryd.runUnderlying68 rfl Tryd.sizeOf66 rfl) rfl fun hS => sO hS (xY 0 rfl Mw rfl rfl Tryd.isAgg66) rfl fun hS => sM hS rfl fun hS => ?_
 obtain ⟨Mz, hM⟩ := qK hM
 refine sO hS (yu rfl rfl Tryd.runUnderlying66 Tryd.sizeOf3 (Mm.rd (i := 5) rfl) (fun _ => rfl) rfl Mz) rfl fun hS => sO hS (yD rfl (Mm.rd (i := 5) rfl) (fun _ => rfl) Mz rfl Tryd.isAgg3) rfl fun hS => sB hS rfl fun hS => zE (v := Value.int .i64) (x0 := (qh ((rd LY.distances_.lengths_ LZ) - (1 : Int)))) hS (xy rfl) rfl fun MW a w hz hS => ?_
 have hM := qy hz hM; clear hz
 refine qB <| xO <| zu (fun MJ a w => ∃ (L5 : Int) (Mg : Option Addr) (Mj : Nat) (L0 : (List Int)) (Mk : qk) (Ml : qk) (L1 : Int), Ss 30 [] [(0, qL L3 0), (2, .int .i64 LZ), (4, qL Mq 0), (6, .int .i64 L1)] H [Ml, Mk, Ma, Mb, Mc, Md, ME] F a w ∧ (xi 5 (ci .u8) 1 Mg L0 Mj Mk) ∧ (xJ Ml L3 ([.int .i64 L5, .slice Mg L0.length Mj, .slice Me LY.literals_.lengths_.length Mh, .slice Mf LY.literals_.codes_.length Mi, .slice L8 LY.distances_.lengths_.length L9, .slice L4 LY.distances_.codes_.length L6]) 70) ∧ (z1.l1 K LY LZ MJ L5 L0 L1).wp kr kp) K ?_ ?_ ?_
 ·exact ⟨LY.Writer_.place_.at_, Ms, Mt, LY.Writer_.bytes_, Mv, Mu, MW, hS.to [1, 2, 3, 4, 5, 6, 0] (by kernel_rfl) ⟨rfl, rfl, rfl, rfl, trivial⟩, MN, ML, hM⟩
 ·intro a w hI; obtain ⟨_, _, _, _, _, _, _, _, _, _, hM⟩ := hI; exact zt hM
 ·intro MJ a w hI MZ MM
  obtain ⟨L5, Mg, Mj, L0, Mk, Ml, L1, hS, My, Mx, hM⟩ := hI
  rw [z1.l1] at hM
  refine wp_seq <| qm <| sM hS rfl fun hS => sB hS rfl fun hS => qB <| qG hS rfl hM (fun MQ hM => ?_) (fun MQ hM => ?_)
  ·refine wp_skip ?_
   refine qe <| wp_seq <| xO ?_
   obtain ⟨MA, hM⟩ := qK hM
   obtain ⟨MR, hM⟩ := qK hM
   refine za (vals := [some (qL L3 0), some (qL L3 0), some (qL L3 0), some (qL Mq 1), some (.slice L4 LY.distances_.codes_.length L6), some (.int .i64 LZ), some (xG L4 (Int.toNat LZ * 1)), some (.int .i64 (rd LY.distances_.codes_ LZ)), some (.int .i64 L1), some (.int .i64 (z9 .i64 (rd LY.distances_.codes_ LZ) L1)), some (.int .i64 (xD .i64 (z9 .i64 (rd LY.distances_.codes_ LZ) L1) (1 : Int))), some (.int .u32 (wr .u32 (xD .i64 (z9 .i64 (rd LY.distances_.codes_ LZ) L1) (1 : Int)))), none]) hS xE rfl ?_
   intro l w ho hcl hA hst
   refine y9 hA hst ho hcl xx xF 12 [0, 1, 2, 3, 4, 5, 6, 7, 8, 9, 10, 11] rfl rfl rfl rfl rfl (by exact ⟨nM rfl, nQ rfl (by exact qX (yw rfl) rfl), nQ rfl (by exact qX (xv rfl Tryd.runUnderlying70 rfl Tryd.sizeOf65 rfl) rfl), nQ rfl (by exact qX (xv rfl Tryd.runUnderlying68 rfl Tryd.sizeOf66 rfl) rfl), nQ rfl (by exact qX (xY 6 rfl Mw rfl rfl Tryd.isAgg66) rfl), nM rfl, nQ rfl (by exact qX (yu rfl rfl Tryd.runUnderlying66 Tryd.sizeOf3 (Mn.rd (i := 5) rfl) (fun _ => rfl) rfl MA) rfl), nQ rfl (by exact qX (yD rfl (Mn.rd (i := 5) rfl) (fun _ => rfl) MA rfl Tryd.isAgg3) rfl), nM rfl, nQ rfl (by exact qX (shr rfl rfl MR) rfl), nB rfl, nQ rfl (by exact qX (vU rfl Tryd.runUnderlying3 Tryd.runUnderlying25) rfl), trivial⟩) fun D l a w ho hcl hav hpre hm hE hk hA hst => ?_
   have hS := (Ss.mk hE hst).env2 (e' := [(19, qL L3 0), (28, .int .u32 (wr .u32 (xD .i64 (z9 .i64 (rd LY.distances_.codes_ LZ) L1) (1 : Int))))]) ⟨rfl, rfl, trivial⟩
   refine qQ rfl <| qF hS rfl Tryd.call30 (zk hG K (qp.mk (qR.mk (qr.mk L5) L0) LY.literals_ LY.distances_) (wr .u32 (xD .i64 (z9 .i64 (rd LY.distances_.codes_ LZ) L1) (1 : Int))) (1 : Int) L3 Ml Mg Mj Mk Me Mh Ma Mf Mi Mb L8 L9 Mc L4 L6 Md Mx My MO MP Mm Mn (hS.st.part 6 [0, 1, 2, 3, 4, 5, 6] (by kernel_rfl)) (qs hM) (fun MY MB MS MT Mr MF MG w hM MU MV hst => qA hS.ev hst.appF rfl fun hS => ?_))
   replace hS : Ss _ _ _ H [MG, MF, Ma, Mb, Mc, Md, ME] F _ _ := hS
   refine qB ?_
   replace hst := hS.st
   obtain ⟨hcl, hmust, hav2, hA⟩ := dn (vals' := [some (qL L3 0), some (qL L3 0), some (qL L3 0), some (qL Mq 1), some (.slice L4 LY.distances_.codes_.length L6), some (.int .i64 LZ), some (xG L4 (Int.toNat LZ * 1)), some (.int .i64 (rd LY.distances_.codes_ LZ)), some (.int .i64 L1), some (.int .i64 (z9 .i64 (rd LY.distances_.codes_ LZ) L1)), some (.int .i64 (xD .i64 (z9 .i64 (rd LY.distances_.codes_ LZ) L1) (1 : Int))), some (.int .u32 (wr .u32 (xD .i64 (z9 .i64 (rd LY.distances_.codes_ LZ) L1) (1 : Int)))), some (.int .i64 MY)]) 12 [(2, 12), (11, 12), (1, 2), (10, 11), (0, 1), (9, 10), (7, 9), (8, 9), (6, 7), (4, 6), (5, 6), (3, 4)] hA hcl hav hm hpre hk rfl rfl rfl rfl rfl rfl rfl
   clear hm hav
   refine yk hA hst ho hcl hmust [] rfl rfl rfl trivial fun a w hS => ?_
   replace hS := hS.env2 (e' := [(0, qL L3 0), (2, .int .i64 LZ), (4, qL Mq 0), (6, .int .i64 L1)]) ⟨rfl, rfl, rfl, rfl, trivial⟩
   refine zy (qe ?_)
   refine zN <| sM hS rfl fun hS => sB hS rfl fun hS => zE (v := Value.int .i64) (x0 := (qh (L1 - (1 : Int)))) hS (xy rfl) rfl fun MX a w hz hS => ?_
   have hM := qy hz hM; clear hz
   refine zp <| qe ?_
   exact MM _ _ ⟨MB, MS, MT, Mr, MF, MG, MX, hS.to [0, 1, 2, 3, 4, 5, 6] (by kernel_rfl) ⟨rfl, rfl, rfl, rfl, trivial⟩, MU, MV, hM⟩
  ·refine wp_exit ?_
   refine qE (qE (ze ?_))
   exact jE (rs := []) hS rfl rfl (hret L5 Mg Mj L0 Mk Ml _ (q7 hM) My Mx (hS.st.pick [0, 1, 2, 3, 4, 5] (by kernel_rfl)))
theorem vu {H : xR} {F : List qk} {w : World} {R : Ending → World → Prop} {kr : (Int × (List Int)) → Prop} {kp : Value → Prop} (hG : Gl H) (K : Nat) (LY : qp) (MF : qv) (LZ : xT) (L0 : Nat) (Mm : qk) (Mk : Option Addr) (Ml : Nat) (Mn : qk) (Mb : Option Addr) (Md : Nat) (L7 : qk) (Mc : Option Addr) (Me : Nat) (L8 : qk) (L3 : Option Addr) (L5 : Nat) (L9 : qk) (L4 : Option Addr) (L6 : Nat) (Ma : qk) (MG : xJ Mm L0 ([.int .i64 LY.Writer_.place_.at_, .slice Mk LY.Writer_.bytes_.length Ml, .slice Mb LY.literals_.lengths_.length Md, .slice Mc LY.literals_.codes_.length Me, .slice L3 LY.distances_.lengths_.length L5, .slice L4 LY.distances_.codes_.length L6]) 70) (MI : xi 5 (ci .u8) 1 Mk LY.Writer_.bytes_ Ml Mn) (Mp : xi 3 (ci .i64) 1 Mb LY.literals_.lengths_ Md L7) (Mq : xi 3 (ci .i64) 1 Mc LY.literals_.codes_ Me L8) (Mr : xi 3 (ci .i64) 1 L3 LY.distances_.lengths_ L5 L9) (Ms : xi 3 (ci .i64) 1 L4 LY.distances_.codes_ L6 Ma)
    (hS : St w H [Mm, Mn, L7, L8, L9, Ma] F) (hm : (yf.m K LY MF LZ).wp kr kp)
    (hret : ∀ (Mg : Int) (Mv : Option Addr) (Mw : Nat) (L1 : (List Int)) (MD : qk) (ME : qk) (w : World), kr (Mg, L1) → (xi 5 (ci .u8) 1 Mv L1 Mw MD) → (xJ ME L0 ([.int .i64 Mg, .slice Mv L1.length Mw, .slice Mb LY.literals_.lengths_.length Md, .slice Mc LY.literals_.codes_.length Me, .slice L3 LY.distances_.lengths_.length L5, .slice L4 LY.distances_.codes_.length L6]) 70) → St w H [ME, MD, L7, L8, L9, Ma] F → R (.returned (.tuple ⟨[]⟩)) w) :
    Calls Tryd.prog 50 ⟨[qL L0 0, .agg ⟨[.slice L3 LY.distances_.lengths_.length L5, .slice L4 LY.distances_.codes_.length L6]⟩, .agg ⟨[.int .i64 LZ.symbol_, .int .i64 LZ.bits_, .int .u32 LZ.more_]⟩]⟩ w R := by
 refine enter Tryd.func50 rfl Tryd.ntmps50 rfl hS fun a w hS => ?_
 have hM := hm; clear hm
 rw [yf.m] at hM
 refine qm <| bx ([.slice L3 LY.distances_.lengths_.length L5, .slice L4 LY.distances_.codes_.length L6]) hS rfl rfl rfl fun w MS Mx MH hS => bx ([.int .i64 LZ.symbol_, .int .i64 LZ.bits_, .int .u32 LZ.more_]) hS rfl rfl rfl fun w Mh My Mf hS => qB <| qm <| sM hS rfl fun hS => sO hS (ut 1 rfl MH rfl ([.slice L3 LY.distances_.lengths_.length L5, .slice L4 LY.distances_.codes_.length L6]) rfl rfl Tryd.isAgg68 Tryd.sizeOf68) rfl fun hS => sO hS (xv rfl Tryd.runUnderlying77 rfl Tryd.sizeOf3 rfl) rfl fun hS => sO hS (xY 0 rfl Mf rfl rfl Tryd.isAgg3) rfl fun hS => qF hS rfl Tryd.call39 (j0 hG K LY LY.distances_ LZ.symbol_ L0 Mm Mk Ml Mn Mb Md L7 Mc Me L8 L3 L5 L9 L4 L6 Ma MG MI Mp Mq Mr Ms (hS.st.part 6 [2, 3, 4, 5, 6, 7, 0, 1] (by kernel_rfl)) (qs hM) (fun Mt MJ ML Mi Mz MA w hM MN MO hst => qA hS.ev hst.appF rfl fun hS => ?_))
 replace hS : Ss _ _ _ H [MA, Mz, L7, L8, L9, Ma, My, Mx] F _ _ := hS
 refine qB <| za (vals := [some (qL L0 0), some (qL L0 0), some (qL L0 0), some (qL Mh 2), some (.int .u32 LZ.more_), some (qL Mh 1), some (.int .i64 LZ.bits_), none]) hS xE rfl ?_
 intro l w ho hcl hA hst
 refine y9 hA hst ho hcl xx xF 7 [0, 1, 2, 3, 4, 5, 6] rfl rfl rfl rfl rfl (by exact ⟨nM rfl, nQ rfl (by exact qX (yw rfl) rfl), nQ rfl (by exact qX (xv rfl Tryd.runUnderlying70 rfl Tryd.sizeOf65 rfl) rfl), nQ rfl (by exact qX (xv rfl Tryd.runUnderlying77 rfl Tryd.sizeOf25 rfl) rfl), nQ rfl (by exact qX (xY 6 rfl Mf rfl rfl Tryd.isAgg25) rfl), nQ rfl (by exact qX (xv rfl Tryd.runUnderlying77 rfl Tryd.sizeOf3 rfl) rfl), nQ rfl (by exact qX (xY 6 rfl Mf rfl rfl Tryd.isAgg3) rfl), trivial⟩) fun D l a w ho hcl hav hpre hm hE hk hA hst => ?_
 have hS := (Ss.mk hE hst).env2 (e' := [(13, qL L0 0), (15, .int .u32 LZ.more_), (17, .int .i64 LZ.bits_)]) ⟨rfl, rfl, rfl, trivial⟩
 refine qQ rfl <| qF hS rfl Tryd.call30 (zk hG K (qp.mk (qR.mk (qr.mk Mt) Mi) LY.literals_ LY.distances_) LZ.more_ LZ.bits_ L0 MA MJ ML Mz Mb Md L7 Mc Me L8 L3 L5 L9 L4 L6 Ma MO MN Mp Mq Mr Ms (hS.st.part 6 [0, 1, 2, 3, 4, 5, 6, 7] (by kernel_rfl)) (qs hM) (fun MR Mu MK MM Mj MB MC w hM MP MQ hst => qA hS.ev hst.appF rfl fun hS => ?_))
 replace hS : Ss _ _ _ H [MC, MB, L7, L8, L9, Ma, My, Mx] F _ _ := hS
 refine qB ?_
 replace hst := hS.st
 obtain ⟨hcl, hmust, hav2, hA⟩ := dn (vals' := [some (qL L0 0), some (qL L0 0), some (qL L0 0), some (qL Mh 2), some (.int .u32 LZ.more_), some (qL Mh 1), some (.int .i64 LZ.bits_), some (.int .i64 MR)]) 7 [(2, 7), (4, 7), (6, 7), (1, 2), (3, 4), (5, 6), (0, 1)] hA hcl hav hm hpre hk rfl rfl rfl rfl rfl rfl rfl
 clear hm hav
 refine yk hA hst ho hcl hmust [] rfl rfl rfl trivial fun a w hS => ?_
 replace hS := hS.env2 (e' := []) trivial
 exact jE (rs := []) hS rfl rfl (hret Mu MK MM Mj MB MC _ (q7 hM) MP MQ (hS.st.pick [0, 1, 2, 3, 4, 5] (by kernel_rfl)))
end Go.TrydS

