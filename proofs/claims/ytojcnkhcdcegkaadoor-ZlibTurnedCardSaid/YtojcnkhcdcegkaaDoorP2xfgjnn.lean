/- Printed by a program of mine: each Go function answers what its model answers; conditions: what each theorem asks of memory. -/
import Derived.Test.YtojcnkhcdcegkaaDoorP1xiaann
set_option linter.unusedVariables false
set_option linter.unusedSimpArgs false
set_option maxRecDepth 100000
namespace Go.TrydS
open Go Go.Sl Go.Mo Go.Proofs
attribute [local irreducible] qN.wp
theorem vE {H : xT} {F : List qk} {w : World} {R : Ending → World → Prop} {kr : ((List UInt8) × Int × Int) → Prop} {kp : Value → Prop} (hG : Gl H) (K : Nat) (s4 : List UInt8) (limit5 : Int)
    (hS : St w H [] F) (hm : (jn.m K s4 limit5).wp kr kp)
    (hret : ∀ (M7 : List UInt8) (M8 : Int) (M9 : Int) (w : World), kr (M7, M8, M9) → St w H [] F → R (.returned (.tuple ⟨[xf M7, .int .i64 M8, .int .i64 M9]⟩)) w) :
    Calls Tryd.prog 11 ⟨[xf s4, .int .i64 limit5]⟩ w R := by
 refine enter Tryd.func11 rfl Tryd.ntmps11 rfl hS fun a w hS => ?_
 have hM := hm; clear hm
 rw [jn.m] at hM
 refine qm <| sA hS rfl fun hS => sA hS rfl fun hS => sA hS rfl fun hS => qA <| wp_seq <| qm <| sM hS rfl fun hS => sB hS rfl fun hS => sM hS rfl fun hS => y4 2 false 15 (b := (decide (limit5 < (0 : Int)))) (r := (decide (limit5 > (1073741824 : Int)))) hS rfl rfl rfl rfl rfl rfl rfl (fun hb a w hS K hK => ?_) rfl fun a w hS => ?_
 ·refine z2 hS rfl rfl rfl hb (mv rfl) rfl fun a w hS => ?_
  refine z2 hS rfl rfl rfl hb (jv rfl rfl rfl) rfl fun a w hS => ?_
  exact zo (hK _ _ (hS.up 2 rfl rfl))
 refine qA <| qF hS rfl hM (fun hb6 hM => ?_) (fun hb6 hM => ?_)
 ·refine wp_seq ?_
  refine zM <| sA hS rfl fun hS => sA hS rfl fun hS => sA hS rfl fun hS => qA <| wp_ret <| zk ?_
  exact zE (rs := [4, 5, 6]) hS rfl rfl (hret ([] : List UInt8) (0 : Int) (1 : Int) _ (q8 hM) (hS.st.pick [] (by kernel_rfl)))
 ·refine wp_skip ?_
  refine qe <| qm <| sA hS rfl fun hS => qA <| qm <| sM hS rfl fun hS => sM hS rfl fun hS => qI hS rfl Tryd.call20 (Ua hG K s4 (hS.st.part 0 [] (by kernel_rfl)) (qt hM) (fun  w hM  hst => qB hS.ev hst.appF rfl fun hS => ?_))
  replace hS : Ss _ _ _ H [] F _ _ := hS
  refine vf hS rfl rfl Tryd.call19 (jT hG K (yf.mk s4 (0 : Int)) (0 : Int) (2 : Int) (hS.st.part 0 [] (by kernel_rfl)) (qt hM) (fun M4 No w hM  hst => qB hS.ev hst.appF rfl fun hS => ?_))
  replace hS : Ss _ _ _ H [] F _ _ := hS
  refine sM hS rfl fun hS => sO hS (ex rfl rfl) rfl fun hS => sO hS (ex rfl rfl) rfl fun hS => sA hS rfl fun hS => sA hS rfl fun hS => qA <| wp_seq <| qm <| sM hS rfl fun hS => sB hS rfl fun hS => qA <| qF hS rfl hM (fun Nj hM => ?_) (fun Nj hM => ?_)
  ·refine wp_seq ?_
   refine zM <| sM hS rfl fun hS => sA hS rfl fun hS => sA hS rfl fun hS => sA hS rfl fun hS => qA <| wp_ret <| zk ?_
   exact zE (rs := [4, 5, 6]) hS rfl rfl (hret ([] : List UInt8) (0 : Int) No _ (q8 hM) (hS.st.pick [] (by kernel_rfl)))
  ·refine wp_skip ?_
   refine qe <| wp_seq <| qm <| sM hS rfl fun hS => sO hS (shr rfl rfl rfl) rfl fun hS => sB hS rfl fun hS => sB hS rfl fun hS => sM hS rfl fun hS => y4 3 false 33 (b := ((xH .u64 (xb .u64 M4 (8 : Int)) (15 : Int)) != (8 : Int))) (r := (decide ((xb .u64 M4 (12 : Int)) > (7 : Int)))) hS rfl rfl rfl rfl rfl rfl rfl (fun hb a w hS K hK => ?_) rfl fun a w hS => ?_
   ·refine z2 hS rfl rfl rfl hb (mv rfl) rfl fun a w hS => ?_
    refine z2 hS rfl rfl rfl hb (shr rfl rfl rfl) rfl fun a w hS => z2 hS rfl rfl rfl hb (jv rfl rfl rfl) rfl fun a w hS => ?_
    exact zo (hK _ _ (hS.up 3 rfl rfl))
   refine sM hS rfl fun hS => y4 3 false 38 (b := (((xH .u64 (xb .u64 M4 (8 : Int)) (15 : Int)) != (8 : Int)) || (decide ((xb .u64 M4 (12 : Int)) > (7 : Int))))) (r := ((vV M4 (31 : Int)) != (0 : Int))) hS rfl rfl rfl rfl rfl rfl rfl (fun hb a w hS K hK => ?_) rfl fun a w hS => ?_
   ·refine z2 hS rfl rfl rfl hb (mv rfl) rfl fun a w hS => ?_
    refine z2 hS rfl rfl rfl hb (rem rfl rfl rfl) rfl fun a w hS => z2 hS rfl rfl rfl hb (jv rfl rfl rfl) rfl fun a w hS => ?_
    exact zo (hK _ _ (hS.up 3 rfl rfl))
   refine sM hS rfl fun hS => y4 3 false 43 (b := ((((xH .u64 (xb .u64 M4 (8 : Int)) (15 : Int)) != (8 : Int)) || (decide ((xb .u64 M4 (12 : Int)) > (7 : Int)))) || ((vV M4 (31 : Int)) != (0 : Int)))) (r := ((xH .u64 M4 (32 : Int)) != (0 : Int))) hS rfl rfl rfl rfl rfl rfl rfl (fun hb a w hS K hK => ?_) rfl fun a w hS => ?_
   ·refine z2 hS rfl rfl rfl hb (mv rfl) rfl fun a w hS => ?_
    refine z2 hS rfl rfl rfl hb (jv rfl rfl rfl) rfl fun a w hS => z2 hS rfl rfl rfl hb (jv rfl rfl rfl) rfl fun a w hS => ?_
    exact zo (hK _ _ (hS.up 3 rfl rfl))
   refine qA <| qF hS rfl hM (fun Nk hM => ?_) (fun Nk hM => ?_)
   ·refine wp_seq ?_
    refine zM <| sA hS rfl fun hS => sA hS rfl fun hS => sA hS rfl fun hS => qA <| wp_ret <| zk ?_
    exact zE (rs := [4, 5, 6]) hS rfl rfl (hret ([] : List UInt8) (0 : Int) (3 : Int) _ (q8 hM) (hS.st.pick [] (by kernel_rfl)))
   ·refine wp_skip ?_
    refine qe <| qm <| sM hS rfl fun hS => ?_
    obtain ⟨Nl, hM⟩ := qK hM
    refine sO hS (Lp rfl Tryd.runUnderlying9 (Lb rfl) G5 Nl) rfl fun hS => sM hS rfl fun hS => qI hS rfl Tryd.call21 (Zr hG K (sub s4 (2 : Int) (s4.length : Int)) limit5 (hS.st.part 0 [] (by kernel_rfl)) (qt hM) (fun M5 Nf Ng w hM  hst => qB hS.ev hst.appF rfl fun hS => ?_))
    replace hS : Ss _ _ _ H [] F _ _ := hS
    refine sM hS rfl fun hS => sO hS (ex rfl rfl) rfl fun hS => sO hS (ex rfl rfl) rfl fun hS => sO hS (ex rfl rfl) rfl fun hS => sA hS rfl fun hS => sA hS rfl fun hS => sA hS rfl fun hS => qA <| wp_seq <| qm <| sM hS rfl fun hS => sB hS rfl fun hS => qA <| qF hS rfl hM (fun Na hM => ?_) (fun Na hM => ?_)
    ·refine wp_seq ?_
     refine zM <| sM hS rfl fun hS => sA hS rfl fun hS => sA hS rfl fun hS => sA hS rfl fun hS => qA <| wp_ret <| zk ?_
     exact zE (rs := [4, 5, 6]) hS rfl rfl (hret ([] : List UInt8) (0 : Int) Ng _ (q8 hM) (hS.st.pick [] (by kernel_rfl)))
    ·refine wp_skip ?_
     refine qe <| qm <| sM hS rfl fun hS => sB hS rfl fun hS => zF (v := Value.int .i64) (x0 := (qg (Nf + (2 : Int)))) hS (xA rfl) rfl fun M3 a w hz hS => ?_
     have hM := qz hz hM; clear hz
     refine qA <| qm <| sM hS rfl fun hS => sM hS rfl fun hS => qI hS rfl Tryd.call20 (Ua hG K s4 (hS.st.part 0 [] (by kernel_rfl)) (qt hM) (fun  w hM  hst => qB hS.ev hst.appF rfl fun hS => ?_))
     replace hS : Ss _ _ _ H [] F _ _ := hS
     refine sM hS rfl fun hS => vf hS rfl rfl Tryd.call19 (jT hG K (yf.mk s4 (0 : Int)) M3 (4 : Int) (hS.st.part 0 [] (by kernel_rfl)) (qt hM) (fun Nh M6 w hM  hst => qB hS.ev hst.appF rfl fun hS => ?_))
     replace hS : Ss _ _ _ H [] F _ _ := hS
     refine sM hS rfl fun hS => sO hS (ex rfl rfl) rfl fun hS => sO hS (ex rfl rfl) rfl fun hS => sA hS rfl fun hS => sA hS rfl fun hS => qA <| wp_seq <| xQ <| qm <| sM hS rfl fun hS => sB hS rfl fun hS => zF (v := Value.bool) (x0 := (M6 != (0 : Int))) hS (xA rfl) rfl fun Nm a w hz hS => ?_
     have hM := qz hz hM; clear hz
     refine qA <| qF hS rfl hM (fun Nb hM => ?_) (fun Nb hM => ?_)
     ·refine wp_seq ?_
      refine zM <| sM hS rfl fun hS => sA hS rfl fun hS => sA hS rfl fun hS => sA hS rfl fun hS => qA <| wp_ret <| x6 (zk ?_)
      exact zE (rs := [4, 5, 6]) hS rfl rfl (hret ([] : List UInt8) (0 : Int) M6 _ (q8 hM) (hS.st.pick [] (by kernel_rfl)))
     ·refine wp_seq ?_
      refine zM <| sM hS rfl fun hS => sO hS (ux rfl Tryd.runUnderlying36 Tryd.runUnderlying25) rfl fun hS => sM hS rfl fun hS => qI hS rfl Tryd.call13 (ZE hG K M5 (hS.st.part 0 [] (by kernel_rfl)) (qt hM) (fun Ni w hM  hst => qB hS.ev hst.appF rfl fun hS => ?_))
      replace hS : Ss _ _ _ H [] F _ _ := hS
      refine sB hS rfl fun hS => zF (v := Value.bool) (x0 := ((wr .u32 Nh) != Ni)) hS (xA rfl) rfl fun Nn a w hz hS => ?_
      have hM := qz hz hM; clear hz
      refine qA <| qF hS rfl hM (fun Nc hM => ?_) (fun Nc hM => ?_)
      ·refine wp_seq ?_
       refine zM <| sA hS rfl fun hS => sA hS rfl fun hS => sA hS rfl fun hS => qA <| wp_ret <| x6 (zk ?_)
       exact zE (rs := [4, 5, 6]) hS rfl rfl (hret ([] : List UInt8) (0 : Int) (4 : Int) _ (q8 hM) (hS.st.pick [] (by kernel_rfl)))
      ·refine wp_skip ?_
       refine zx (qe ?_)
       refine qm <| sM hS rfl fun hS => sM hS rfl fun hS => sB hS rfl fun hS => sA hS rfl fun hS => zF (v := Value.int .i64) (x0 := (qg (M3 + (4 : Int)))) hS (xA rfl) rfl fun Nd a w hz hS => ?_
       have hM := qz hz hM; clear hz
       refine sA hS rfl fun hS => qA <| wp_ret ?_
       exact zE (rs := [4, 5, 6]) hS rfl rfl (hret M5 Nd (0 : Int) _ (q8 hM) (hS.st.pick [] (by kernel_rfl)))
theorem vz {H : xT} {F : List qk} {w : World} {R : Ending → World → Prop} {kr : Bool → Prop} {kp : Value → Prop} (hG : Gl H) (K : Nat)
    (hS : St w H [] F) (hm : (yp.m K).wp kr kp)
    (hret : ∀ (M8 : Bool) (w : World), kr M8 → St w H [] F → R (.returned (.bool M8)) w) :
    Calls Tryd.prog 6 ⟨[]⟩ w R := by
 refine enter Tryd.func6 rfl Tryd.ntmps6 rfl hS fun a w hS => ?_
 have hM := hm; clear hm
 rw [yp.m] at hM
 refine qm <| sA hS rfl fun hS => qA <| qm <| qI hS rfl Tryd.call11 (vE hG K ([120, 156, 3, 0, 0, 0, 0, 1, 122] : List UInt8) (0 : Int) (hS.st.part 0 [] (by kernel_rfl)) (qt hM) (fun M3 M4 M5 w hM  hst => qB hS.ev hst.appF rfl fun hS => ?_))
 replace hS : Ss _ _ _ H [] F _ _ := hS
 refine sM hS rfl fun hS => sO hS (ex rfl rfl) rfl fun hS => sO hS (ex rfl rfl) rfl fun hS => sO hS (ex rfl rfl) rfl fun hS => sA hS rfl fun hS => sA hS rfl fun hS => sA hS rfl fun hS => qA <| qm <| qI hS rfl Tryd.call11 (vE hG K ([120, 156, 3, 0, 0, 0, 0, 2] : List UInt8) (0 : Int) (hS.st.part 0 [] (by kernel_rfl)) (qt hM) (fun Na Nb M6 w hM  hst => qB hS.ev hst.appF rfl fun hS => ?_))
 replace hS : Ss _ _ _ H [] F _ _ := hS
 refine sM hS rfl fun hS => sO hS (ex rfl rfl) rfl fun hS => sO hS (ex rfl rfl) rfl fun hS => sO hS (ex rfl rfl) rfl fun hS => sA hS rfl fun hS => sA hS rfl fun hS => sA hS rfl fun hS => qA <| qm <| qI hS rfl Tryd.call11 (vE hG K ([120, 157] : List UInt8) (0 : Int) (hS.st.part 0 [] (by kernel_rfl)) (qt hM) (fun Nc Nd M7 w hM  hst => qB hS.ev hst.appF rfl fun hS => ?_))
 replace hS : Ss _ _ _ H [] F _ _ := hS
 refine sM hS rfl fun hS => sO hS (ex rfl rfl) rfl fun hS => sO hS (ex rfl rfl) rfl fun hS => sO hS (ex rfl rfl) rfl fun hS => sA hS rfl fun hS => sA hS rfl fun hS => sA hS rfl fun hS => qA <| qm <| sM hS rfl fun hS => sO hS (Mf rfl rfl rfl) rfl fun hS => sM hS rfl fun hS => y4 2 true 27 (b := (M3 == ([] : List UInt8))) (r := (M4 == (8 : Int))) hS rfl rfl rfl rfl rfl rfl rfl (fun hb a w hS K hK => ?_) rfl fun a w hS => ?_
 ·refine z2 hS rfl rfl rfl hb (mv rfl) rfl fun a w hS => ?_
  refine z2 hS rfl rfl rfl hb (jv rfl rfl rfl) rfl fun a w hS => ?_
  exact zo (hK _ _ (hS.up 2 rfl rfl))
 refine sM hS rfl fun hS => y4 2 true 31 (b := ((M3 == ([] : List UInt8)) && (M4 == (8 : Int)))) (r := (M5 == (0 : Int))) hS rfl rfl rfl rfl rfl rfl rfl (fun hb a w hS K hK => ?_) rfl fun a w hS => ?_
 ·refine z2 hS rfl rfl rfl hb (mv rfl) rfl fun a w hS => ?_
  refine z2 hS rfl rfl rfl hb (jv rfl rfl rfl) rfl fun a w hS => ?_
  exact zo (hK _ _ (hS.up 2 rfl rfl))
 refine sM hS rfl fun hS => y4 2 true 35 (b := (((M3 == ([] : List UInt8)) && (M4 == (8 : Int))) && (M5 == (0 : Int)))) (r := (M6 == (4 : Int))) hS rfl rfl rfl rfl rfl rfl rfl (fun hb a w hS K hK => ?_) rfl fun a w hS => ?_
 ·refine z2 hS rfl rfl rfl hb (mv rfl) rfl fun a w hS => ?_
  refine z2 hS rfl rfl rfl hb (jv rfl rfl rfl) rfl fun a w hS => ?_
  exact zo (hK _ _ (hS.up 2 rfl rfl))
 refine sM hS rfl fun hS => y4 2 true 39 (b := ((((M3 == ([] : List UInt8)) && (M4 == (8 : Int))) && (M5 == (0 : Int))) && (M6 == (4 : Int)))) (r := (M7 == (3 : Int))) hS rfl rfl rfl rfl rfl rfl rfl (fun hb a w hS K hK => ?_) rfl fun a w hS => ?_
 ·refine z2 hS rfl rfl rfl hb (mv rfl) rfl fun a w hS => ?_
  refine z2 hS rfl rfl rfl hb (jv rfl rfl rfl) rfl fun a w hS => ?_
  exact zo (hK _ _ (hS.up 2 rfl rfl))
 refine zF (v := Value.bool) (x0 := (((((M3 == ([] : List UInt8)) && (M4 == (8 : Int))) && (M5 == (0 : Int))) && (M6 == (4 : Int))) && (M7 == (3 : Int)))) hS (xA rfl) rfl fun M9 a w hz hS => ?_
 have hM := qz hz hM; clear hz
 refine qA <| wp_ret ?_
 exact zE (rs := [0]) hS rfl rfl (hret M9 _ (q8 hM) (hS.st.pick [] (by kernel_rfl)))
theorem Zu {H : xT} {F : List qk} {w : World} {R : Ending → World → Prop} {kr : Int → Prop} {kp : Value → Prop} (hG : Gl H) (K : Nat) (M8 : Int)
    (hS : St w H [] F) (hm : (zw.m K M8).wp kr kp)
    (hret : ∀ (Nd : Int) (w : World), kr Nd → St w H [] F → R (.returned (.int .i64 Nd)) w) :
    Calls Tryd.prog 23 ⟨[.int .u64 M8]⟩ w R := by
 refine enter Tryd.func23 rfl Tryd.ntmps23 rfl hS fun a w hS => ?_
 have hM := hm; clear hm
 rw [zw.m] at hM
 refine qm <| sA hS rfl fun hS => qA <| zl (fun a w => ∃ (M6 : Int) (M3 : Int), Ss 25 [] [(0, .int .u64 M6), (2, .int .i64 M3)] H [] F a w ∧ (zw.j1 K M6 M3).wp kr kp) (fun Np Na => ?_) ?_
 ·refine wp_seq ?_
  refine zM <| sM hS rfl fun hS => sB hS rfl fun hS => qA <| qF hS rfl hM (fun Nf hM => ?_) (fun Nf hM => ?_)
  ·refine wp_seq ?_
   refine zM <| sM hS rfl fun hS => sO hS (shr rfl rfl rfl) rfl fun hS => zF (v := Value.int .u64) (x0 := (xb .u64 M8 (32 : Int))) hS (xA rfl) rfl fun Nm a w hz hS => ?_
   have hM := qz hz hM; clear hz
   refine qA <| zM <| sA hS rfl fun hS => zo <| qe ?_
   exact Na _ _ ⟨Nm, (32 : Int), hS.to [] (by kernel_rfl) ⟨rfl, rfl, trivial⟩, hM⟩
  ·refine wp_skip ?_
   refine qe ?_
   exact Na _ _ ⟨M8, (0 : Int), hS.to [] (by kernel_rfl) ⟨rfl, rfl, trivial⟩, hM⟩
 ·intro a w hI
  obtain ⟨M6, M3, hS, hM⟩ := hI
  rw [zw.j1] at hM
  refine zl (fun a w => ∃ (M7 : Int) (M4 : Int), Ss 25 [] [(0, .int .u64 M7), (2, .int .i64 M4)] H [] F a w ∧ (zw.j2 K M7 M4).wp kr kp) (fun Nq Nb => ?_) ?_
  ·refine wp_seq ?_
   refine zM <| sM hS rfl fun hS => sB hS rfl fun hS => qA <| qF hS rfl hM (fun Ng hM => ?_) (fun Ng hM => ?_)
   ·refine wp_seq ?_
    refine zM <| sM hS rfl fun hS => sO hS (shr rfl rfl rfl) rfl fun hS => zF (v := Value.int .u64) (x0 := (xb .u64 M6 (16 : Int))) hS (xA rfl) rfl fun Nn a w hz hS => ?_
    have hM := qz hz hM; clear hz
    refine qA <| zM <| sM hS rfl fun hS => sB hS rfl fun hS => zF (v := Value.int .i64) (x0 := (qg (M3 + (16 : Int)))) hS (xA rfl) rfl fun Nj a w hz hS => ?_
    have hM := qz hz hM; clear hz
    refine zo <| qe ?_
    exact Nb _ _ ⟨Nn, Nj, hS.to [] (by kernel_rfl) ⟨rfl, rfl, trivial⟩, hM⟩
   ·refine wp_skip ?_
    refine qe ?_
    exact Nb _ _ ⟨M6, M3, hS.to [] (by kernel_rfl) ⟨rfl, rfl, trivial⟩, hM⟩
  ·intro a w hI
   obtain ⟨M7, M4, hS, hM⟩ := hI
   rw [zw.j2] at hM
   refine zl (fun a w => ∃ (M9 : Int) (M5 : Int), Ss 25 [] [(0, .int .u64 M9), (2, .int .i64 M5)] H [] F a w ∧ (zw.j3 K M9 M5).wp kr kp) (fun Nr Nc => ?_) ?_
   ·refine wp_seq ?_
    refine zM <| sM hS rfl fun hS => sB hS rfl fun hS => qA <| qF hS rfl hM (fun Nh hM => ?_) (fun Nh hM => ?_)
    ·refine wp_seq ?_
     refine zM <| sM hS rfl fun hS => sO hS (shr rfl rfl rfl) rfl fun hS => zF (v := Value.int .u64) (x0 := (xb .u64 M7 (8 : Int))) hS (xA rfl) rfl fun No a w hz hS => ?_
     have hM := qz hz hM; clear hz
     refine qA <| zM <| sM hS rfl fun hS => sB hS rfl fun hS => zF (v := Value.int .i64) (x0 := (qg (M4 + (8 : Int)))) hS (xA rfl) rfl fun Nk a w hz hS => ?_
     have hM := qz hz hM; clear hz
     refine zo <| qe ?_
     exact Nc _ _ ⟨No, Nk, hS.to [] (by kernel_rfl) ⟨rfl, rfl, trivial⟩, hM⟩
    ·refine wp_skip ?_
     refine qe ?_
     exact Nc _ _ ⟨M7, M4, hS.to [] (by kernel_rfl) ⟨rfl, rfl, trivial⟩, hM⟩
   ·intro a w hI
    obtain ⟨M9, M5, hS, hM⟩ := hI
    rw [zw.j3] at hM
    refine qm <| sM hS rfl fun hS => sM hS rfl fun hS => sO hS (ux rfl Tryd.runUnderlying36 Tryd.runUnderlying5) rfl fun hS => ?_
    obtain ⟨Ni, hM⟩ := qK hM
    refine sO hS (Up rfl rfl Tryd.runUnderlying9 Ni) rfl fun hS => sO hS (ux rfl Tryd.runUnderlying5 Tryd.runUnderlying3) rfl fun hS => sB hS rfl fun hS => zF (v := Value.int .i64) (x0 := (qg (M5 + (wr .i64 ((rd ([0, 1, 2, 2, 3, 3, 3, 3, 4, 4, 4, 4, 4, 4, 4, 4, 5, 5, 5, 5, 5, 5, 5, 5, 5, 5, 5, 5, 5, 5, 5, 5, 6, 6, 6, 6, 6, 6, 6, 6, 6, 6, 6, 6, 6, 6, 6, 6, 6, 6, 6, 6, 6, 6, 6, 6, 6, 6, 6, 6, 6, 6, 6, 6, 7, 7, 7, 7, 7, 7, 7, 7, 7, 7, 7, 7, 7, 7, 7, 7, 7, 7, 7, 7, 7, 7, 7, 7, 7, 7, 7, 7, 7, 7, 7, 7, 7, 7, 7, 7, 7, 7, 7, 7, 7, 7, 7, 7, 7, 7, 7, 7, 7, 7, 7, 7, 7, 7, 7, 7, 7, 7, 7, 7, 7, 7, 7, 7, 8, 8, 8, 8, 8, 8, 8, 8, 8, 8, 8, 8, 8, 8, 8, 8, 8, 8, 8, 8, 8, 8, 8, 8, 8, 8, 8, 8, 8, 8, 8, 8, 8, 8, 8, 8, 8, 8, 8, 8, 8, 8, 8, 8, 8, 8, 8, 8, 8, 8, 8, 8, 8, 8, 8, 8, 8, 8, 8, 8, 8, 8, 8, 8, 8, 8, 8, 8, 8, 8, 8, 8, 8, 8, 8, 8, 8, 8, 8, 8, 8, 8, 8, 8, 8, 8, 8, 8, 8, 8, 8, 8, 8, 8, 8, 8, 8, 8, 8, 8, 8, 8, 8, 8, 8, 8, 8, 8, 8, 8, 8, 8, 8, 8, 8, 8, 8, 8, 8, 8, 8, 8, 8, 8, 8, 8, 8, 8] : List UInt8) (wr .u8 M9)).toNat : Int))))) hS (xA rfl) rfl fun Nl a w hz hS => ?_
    have hM := qz hz hM; clear hz
    refine qA <| wp_ret ?_
    exact zE (rs := [2]) hS rfl rfl (hret Nl _ (q8 hM) (hS.st.pick [] (by kernel_rfl)))
theorem Z8 {H : xT} {F : List qk} {w : World} {R : Ending → World → Prop} {kr : ((List UInt8) × Int) → Prop} {kp : Value → Prop} (hG : Gl H) (K : Nat) (M4 : Int) (M5 : Int)
    (hS : St w H [] F) (hm : (xl.m K M4 M5).wp kr kp)
    (hret : ∀ (Nk : List UInt8) (Nl : Int) (w : World), kr (Nk, Nl) → St w H [] F → R (.returned (.tuple ⟨[xf Nk, .int .i64 Nl]⟩)) w) :
    Calls Tryd.prog 12 ⟨[.int .u64 M4, .int .i64 M5, .bool true]⟩ w R := by
 refine enter Tryd.func12 rfl Tryd.ntmps12 rfl hS fun a w hS => ?_
 have hM := hm; clear hm
 rw [xl.m] at hM
 refine qm <| sA hS rfl fun hS => sA hS rfl fun hS => qA <| wp_seq <| qm <| sM hS rfl fun hS => qI hS rfl Tryd.call22 (Q1 hG K M5 (hS.st.part 0 [] (by kernel_rfl)) (qt hM) (fun Nz w hM  hst => qB hS.ev hst.appF rfl fun hS => ?_))
 replace hS : Ss _ _ _ H [] F _ _ := hS
 refine sO hS (un rfl rfl) rfl fun hS => qA <| qF hS rfl hM (fun Np hM => ?_) (fun Np hM => ?_)
 ·refine wp_seq ?_
  refine zM <| sA hS rfl fun hS => sA hS rfl fun hS => qA <| wp_ret <| zk ?_
  exact zE (rs := [6, 7]) hS rfl rfl (hret ([] : List UInt8) (1 : Int) _ (q8 hM) (hS.st.pick [] (by kernel_rfl)))
 ·refine wp_skip ?_
  refine qe <| wp_seq <| qm <| sM hS rfl fun hS => qI hS rfl Tryd.call23 (Zu hG K M4 (hS.st.part 0 [] (by kernel_rfl)) (qt hM) (fun NA w hM  hst => qB hS.ev hst.appF rfl fun hS => ?_))
  replace hS : Ss _ _ _ H [] F _ _ := hS
  refine sM hS rfl fun hS => sB hS rfl fun hS => sB hS rfl fun hS => qA <| qF hS rfl hM (fun Nq hM => ?_) (fun Nq hM => ?_)
  ·refine wp_seq ?_
   refine zM <| sA hS rfl fun hS => sA hS rfl fun hS => qA <| wp_ret <| zk ?_
   exact zE (rs := [6, 7]) hS rfl rfl (hret ([] : List UInt8) (10 : Int) _ (q8 hM) (hS.st.pick [] (by kernel_rfl)))
  ·refine wp_skip ?_
   refine qe <| qm <| sM hS rfl fun hS => sM hS rfl fun hS => qI hS rfl Tryd.call24 (uL hG K M5 (hS.st.part 0 [] (by kernel_rfl)) (qt hM) (fun M8 Nd w hM Nw hst => qB hS.ev hst.appF rfl fun hS => ?_))
   replace hS : Ss _ _ _ H [Nd] F _ _ := hS
   refine sA hS rfl fun hS => qA <| qm <| sM hS rfl fun hS => ?_
   obtain ⟨Ns, hM⟩ := qK hM
   refine DD (g := (ci .u8)) (m := M5) (0 : Int) hS rfl rfl (by simp) Tryd.runUnderlying32 X.el5 (fun w => ⟨_, Tryd.zeroValue5 w, rfl⟩) (fun _ => rfl) rfl rfl Ns rfl fun Nb w M7 M9 Nu hz Nn hS => ?_
   have hM := qz hz hM; clear hz
   refine sA hS rfl fun hS => qA <| wp_seq <| qm <| sM hS rfl fun hS => sO hS (yc rfl Tryd.runUnderlying32) rfl fun hS => sM hS rfl fun hS => qA <| xQ <| zv (fun Nj a w => ∃ (M6 : (List Int)) (Nf : qk) (M3 : Int), Ss 42 [] [(0, .int .u64 M4), (8, jF 45 [] [qL M8 0]), (9, .slice M7 M6.length M9), (25, .int .i64 (Nb.length : Int)), (26, .int .i64 M3)] H [Nd, Nf] F a w ∧ (xj 5 (ci .u8) 1 M7 M6 M9 Nf) ∧ (xl.l1 K M4 M5 Nb Nj M6 M3).wp kr kp) K ?_ ?_ ?_
   ·exact ⟨Nb, Nu, (0 : Int), hS.to [1, 0] (by kernel_rfl) ⟨rfl, rfl, rfl, rfl, rfl, trivial⟩, Nn, hM⟩
   ·intro a w hI; obtain ⟨_, _, _, _, _, hM⟩ := hI; exact zu hM
   ·intro Nj a w hI Ny Nm
    obtain ⟨M6, Nf, M3, hS, Nc, hM⟩ := hI
    rw [xl.l1] at hM
    refine qm <| sB hS rfl fun hS => qA <| wp_seq <| qF hS rfl hM (fun Nr hM => ?_) (fun Nr hM => ?_)
    ·refine wp_skip ?_
     refine qe <| wp_seq <| xQ <| qm <| sM hS rfl fun hS => sA hS rfl fun hS => zo <| qe ?_
     obtain ⟨Ng, hM⟩ := qK hM
     refine q9 (vals := [some (.slice M7 M6.length M9), some (jF 45 [] [qL M8 0]), some (.int .i64 M3), none, some (.int .u64 M4), some (.int .i64 M3), some (.int .i64 (qg ((8 : Int) * M3))), some (.int .u64 (xb .u64 M4 (qg ((8 : Int) * M3)))), some (.int .u8 (wr .u8 (xb .u64 M4 (qg ((8 : Int) * M3))))), none, none]) hS xF rfl ?_
     intro l w ho hcl hA hst
     refine jf hA hst ho hcl xu xG 3 [0, 1, 2, 4, 5, 6, 7, 8] rfl rfl rfl rfl rfl (by exact ⟨nM rfl, nM rfl, nM rfl, nM rfl, nM rfl, nB rfl, nQ rfl (by exact qX (shr rfl rfl Ng) rfl), nQ rfl (by exact qX (ux rfl Tryd.runUnderlying36 Tryd.runUnderlying5) rfl), trivial⟩) fun D l a w ho hcl hav hpre hm hE hk hA hst => ?_
     have hS := (Ss.mk hE hst).env2 (e' := [(30, jF 45 [] [qL M8 0]), (31, .int .i64 M3)]) ⟨rfl, rfl, trivial⟩
     refine qR rfl <| vf hS rfl rfl Tryd.call45 (v7 hG K M3 M5 M8 Nd Nw (hS.st.part 1 [0, 1] (by kernel_rfl)) (qt hM) (fun Na w hM  hst => qB hS.ev hst.appF rfl fun hS => ?_))
     replace hS : Ss _ _ _ H [Nd, Nf] F _ _ := hS
     refine qA ?_
     replace hst := hS.st
     obtain ⟨Nh, hM⟩ := qK hM
     obtain ⟨hcl, hmust, hav2, hA⟩ := dn (vals' := [some (.slice M7 M6.length M9), some (jF 45 [] [qL M8 0]), some (.int .i64 M3), some (.int .i64 Na), some (.int .u64 M4), some (.int .i64 M3), some (.int .i64 (qg ((8 : Int) * M3))), some (.int .u64 (xb .u64 M4 (qg ((8 : Int) * M3)))), some (.int .u8 (wr .u8 (xb .u64 M4 (qg ((8 : Int) * M3))))), some (xE M7 (Int.toNat Na * 1)), none]) 3 [(1, 3), (2, 3)] hA hcl hav hm hpre hk rfl rfl rfl rfl rfl rfl rfl
     clear hm hav
     refine jf hA hst ho hcl hav2 hmust 10 [0, 4, 5, 6, 7, 8, 9] rfl rfl rfl rfl rfl (by exact ⟨nM rfl, nM rfl, nM rfl, nB rfl, nQ rfl (by exact qX (shr rfl rfl Ng) rfl), nQ rfl (by exact qX (ux rfl Tryd.runUnderlying36 Tryd.runUnderlying5) rfl), nQ rfl (by exact qX (yu rfl rfl Tryd.runUnderlying32 Tryd.sizeOf5 (Nc.rd (i := 1) rfl) (fun _ => rfl) rfl Nh) rfl), trivial⟩) fun D l a w ho hcl hav hpre hm hE hk hA hst => ?_
     have hS := (Ss.mk hE hst).env2 (e' := [(37, .int .u8 (wr .u8 (xb .u64 M4 (qg ((8 : Int) * M3))))), (38, xE M7 (Int.toNat Na * 1))]) ⟨rfl, rfl, trivial⟩
     refine qR rfl <| J1 (i := Na) (sz := 1) 1 0 ((wr .u8 (xb .u64 M4 (qg ((8 : Int) * M3))))) hS rfl rfl Nc rfl Tryd.sizeOf5 (u4 (wr .u8 (xb .u64 M4 (qg ((8 : Int) * M3))))) (fun _ => rfl) Nh rfl rfl fun Ni w Nv hz Nt No hS => ?_
     have hM := qz hz hM; clear hz
     refine qA ?_
     replace hst := hS.st
     obtain ⟨hcl, hmust, hav2, hA⟩ := Xy (vals' := [some (.slice M7 M6.length M9), some (jF 45 [] [qL M8 0]), some (.int .i64 M3), some (.int .i64 Na), some (.int .u64 M4), some (.int .i64 M3), some (.int .i64 (qg ((8 : Int) * M3))), some (.int .u64 (xb .u64 M4 (qg ((8 : Int) * M3)))), some (.int .u8 (wr .u8 (xb .u64 M4 (qg ((8 : Int) * M3))))), some (xE M7 (Int.toNat Na * 1)), some undef]) 10 [(0, 10), (1, 10), (2, 10), (3, 10), (4, 10), (5, 10), (6, 10), (7, 10), (8, 10), (9, 10)] hA hcl hav hm hpre rfl rfl rfl rfl rfl
     clear hm hav
     refine yk hA hst ho hcl hmust [] rfl rfl rfl trivial fun a w hS => ?_
     replace hS := hS.env2 (e' := [(0, .int .u64 M4), (8, jF 45 [] [qL M8 0]), (9, .slice M7 Ni.length M9), (25, .int .i64 (Nb.length : Int)), (26, .int .i64 M3)]) ⟨rfl, rfl, (UD (u := .slice M7 M6.length M9) rfl (by rw [Nt])), rfl, rfl, trivial⟩
     refine zx (qe ?_)
     refine zM <| sB hS rfl fun hS => sM hS rfl fun hS => zo <| qe ?_
     exact Nm _ _ ⟨Ni, Nv, (qg (M3 + (1 : Int))), hS.to [0, 1] (by kernel_rfl) ⟨rfl, rfl, rfl, rfl, rfl, trivial⟩, No, hM⟩
    ·refine wp_exit ?_
     refine qE (qE (zd (qe ?_)))
     refine qm <| sM hS rfl fun hS => sO hS (GV rfl Tryd.runUnderlying32 Tryd.runUnderlying5 Tryd.runUnderlying9 (Nc.rd (i := 1) rfl)) rfl fun hS => zF (v := xf) (x0 := (M6.map v8)) hS (xA rfl) rfl fun Nx a w hz hS => ?_
     have hM := qz hz hM; clear hz
     refine sA hS rfl fun hS => qA <| wp_ret ?_
     exact zE (rs := [6, 7]) hS rfl rfl (hret Nx (0 : Int) _ (q8 hM) (hS.st.pick [] (by kernel_rfl)))
theorem ul {H : xT} {F : List qk} {w : World} {R : Ending → World → Prop} {kr : Unit → Prop} {kp : Value → Prop} (hG : Gl H) (K : Nat) (M3 : xn) (M4 : Int) (M5 : Nat) (M9 : qk) (Nb : Nat) (Na : qk) (M6 : xM M9 M5 ([xf M3.text_, .map (some Nb)]) 55) (Ni : XM (K8 .u8) (K9 3) 3 (ci .i64) 1 Nb M3.seen_ Na)
    (hS : St w H [M9, Na] F) (hm : (yE.m K M3 M4).wp kr kp)
    (hret : ∀ (w : World), kr () → St w H [M9, Na] F → R (.returned (.agg ⟨([((rd M3.text_ M4).toNat : Int), ((rd M3.text_ (qg (M4 + (1 : Int)))).toNat : Int), ((rd M3.text_ (qg (M4 + (2 : Int)))).toNat : Int)] : List Int).flatMap (ci .u8)⟩)) w) :
    Calls Tryd.prog 47 ⟨[qL M5 0, .int .i64 M4]⟩ w R := by
 refine enter Tryd.func47 rfl Tryd.ntmps47 rfl hS fun a w hS => ?_
 have hM := hm; clear hm
 rw [yE.m] at hM
 refine qm <| QI ((List.replicate 3 (0 : Int)).flatMap (ci .u8)) hS Tryd.zeroValue100 rfl rfl fun w M8 Nj Nc hS => qA <| wp_seq ?_
 obtain ⟨Nd, hM⟩ := qK hM
 obtain ⟨Nf, hM⟩ := qK hM
 obtain ⟨Ng, hM⟩ := qK hM
 refine q9 (vals := [some (qL M5 0), some (qL M5 0), some (qL M5 0), some (xf M3.text_), some (.int .i64 M4), some (.int .u8 ((rd M3.text_ M4).toNat : Int)), some (qL M5 0), some (qL M5 0), some (qL M5 0), some (xf M3.text_), some (.int .i64 M4), some (.int .i64 (qg (M4 + (1 : Int)))), some (.int .u8 ((rd M3.text_ (qg (M4 + (1 : Int)))).toNat : Int)), some (qL M5 0), some (qL M5 0), some (qL M5 0), some (xf M3.text_), some (.int .i64 M4), some (.int .i64 (qg (M4 + (2 : Int)))), some (.int .u8 ((rd M3.text_ (qg (M4 + (2 : Int)))).toNat : Int)), some (.agg ⟨([((rd M3.text_ M4).toNat : Int), ((rd M3.text_ (qg (M4 + (1 : Int)))).toNat : Int), ((rd M3.text_ (qg (M4 + (2 : Int)))).toNat : Int)] : List Int).flatMap (ci .u8)⟩), none]) hS xF rfl ?_
 intro l w ho hcl hA hst
 refine jf hA hst ho hcl xu xG 21 [0, 1, 2, 3, 4, 5, 6, 7, 8, 9, 10, 11, 12, 13, 14, 15, 16, 17, 18, 19, 20] rfl rfl rfl rfl rfl (by exact ⟨nM rfl, nQ rfl (by exact qX (yz rfl) rfl), nQ rfl (by exact qX (xw rfl Tryd.runUnderlying55 rfl Tryd.sizeOf9 rfl) rfl), nQ rfl (by exact qX (x5 1 rfl M6 rfl rfl Tryd.isAgg9) rfl), nM rfl, nQ rfl (by exact qX (Up rfl rfl Tryd.runUnderlying9 Nd) rfl), nM rfl, nQ rfl (by exact qX (yz rfl) rfl), nQ rfl (by exact qX (xw rfl Tryd.runUnderlying55 rfl Tryd.sizeOf9 rfl) rfl), nQ rfl (by exact qX (x5 1 rfl M6 rfl rfl Tryd.isAgg9) rfl), nM rfl, nB rfl, nQ rfl (by exact qX (Up rfl rfl Tryd.runUnderlying9 Nf) rfl), nM rfl, nQ rfl (by exact qX (yz rfl) rfl), nQ rfl (by exact qX (xw rfl Tryd.runUnderlying55 rfl Tryd.sizeOf9 rfl) rfl), nQ rfl (by exact qX (x5 1 rfl M6 rfl rfl Tryd.isAgg9) rfl), nM rfl, nB rfl, nQ rfl (by exact qX (Up rfl rfl Tryd.runUnderlying9 Ng) rfl), nQ rfl (by exact qX (Bh (([((rd M3.text_ M4).toNat : Int), ((rd M3.text_ (qg (M4 + (1 : Int)))).toNat : Int), ((rd M3.text_ (qg (M4 + (2 : Int)))).toNat : Int)] : List Int).flatMap (ci .u8)) Tryd.zeroValue100 Tryd.runUnderlying100 Tryd.sizeOf5 rfl (by kernel_rfl)) rfl), trivial⟩) fun D l a w ho hcl hav hpre hm hE hk hA hst => ?_
 have hS := (Ss.mk hE hst).env2 (e' := [(4, qL M8 0), (25, .agg ⟨([((rd M3.text_ M4).toNat : Int), ((rd M3.text_ (qg (M4 + (1 : Int)))).toNat : Int), ((rd M3.text_ (qg (M4 + (2 : Int)))).toNat : Int)] : List Int).flatMap (ci .u8)⟩)]) ⟨rfl, rfl, trivial⟩
 refine qR rfl <| YK (xs := (List.replicate 3 (0 : Int))) (ys := ([((rd M3.text_ M4).toNat : Int), ((rd M3.text_ (qg (M4 + (1 : Int)))).toNat : Int), ((rd M3.text_ (qg (M4 + (2 : Int)))).toNat : Int)] : List Int)) (g := (ci .u8)) (pre := []) (post := []) 0 hS rfl rfl Nc rfl (by simp) rfl (xg (g := (ci .u8)) (sz := 1) (fun _ => rfl) (List.length_replicate ..)) (xg (g := (ci .u8)) (sz := 1) (fun _ => rfl) rfl) (u4) Tryd.sizeOf100 fun w Nh M7 hS => ?_
 replace M7 : xM Nh M8 (([((rd M3.text_ M4).toNat : Int), ((rd M3.text_ (qg (M4 + (1 : Int)))).toNat : Int), ((rd M3.text_ (qg (M4 + (2 : Int)))).toNat : Int)] : List Int).flatMap (ci .u8)) 100 := by simpa using M7
 refine qA ?_
 replace hst := hS.st
 obtain ⟨hcl, hmust, hav2, hA⟩ := Xy (vals' := [some (qL M5 0), some (qL M5 0), some (qL M5 0), some (xf M3.text_), some (.int .i64 M4), some (.int .u8 ((rd M3.text_ M4).toNat : Int)), some (qL M5 0), some (qL M5 0), some (qL M5 0), some (xf M3.text_), some (.int .i64 M4), some (.int .i64 (qg (M4 + (1 : Int)))), some (.int .u8 ((rd M3.text_ (qg (M4 + (1 : Int)))).toNat : Int)), some (qL M5 0), some (qL M5 0), some (qL M5 0), some (xf M3.text_), some (.int .i64 M4), some (.int .i64 (qg (M4 + (2 : Int)))), some (.int .u8 ((rd M3.text_ (qg (M4 + (2 : Int)))).toNat : Int)), some (.agg ⟨([((rd M3.text_ M4).toNat : Int), ((rd M3.text_ (qg (M4 + (1 : Int)))).toNat : Int), ((rd M3.text_ (qg (M4 + (2 : Int)))).toNat : Int)] : List Int).flatMap (ci .u8)⟩), some undef]) 21 [(0, 21), (1, 21), (2, 21), (3, 21), (4, 21), (5, 21), (6, 21), (7, 21), (8, 21), (9, 21), (10, 21), (11, 21), (12, 21), (13, 21), (14, 21), (15, 21), (16, 21), (17, 21), (18, 21), (19, 21), (20, 21)] hA hcl hav hm hpre rfl rfl rfl rfl rfl
 clear hm hav
 refine yk hA hst ho hcl hmust [] rfl rfl rfl trivial fun a w hS => ?_
 replace hS := hS.env2 (e' := [(4, qL M8 0)]) ⟨rfl, trivial⟩
 refine qe <| wp_ret ?_
 exact jl (vs := [.agg ⟨([((rd M3.text_ M4).toNat : Int), ((rd M3.text_ (qg (M4 + (1 : Int)))).toNat : Int), ((rd M3.text_ (qg (M4 + (2 : Int)))).toNat : Int)] : List Int).flatMap (ci .u8)⟩]) hS rfl (by exact ⟨LY 0 rfl M7 rfl (xg (g := (ci .u8)) (sz := 1) (fun _ => rfl) rfl) Tryd.isAgg100 Tryd.sizeOf100, trivial⟩) (hret _ (q8 hM) (hS.st.pick [1, 2] (by kernel_rfl)))
theorem QV {H : xT} {F : List qk} {w : World} {R : Ending → World → Prop} {kr : Int → Prop} {kp : Value → Prop} (hG : Gl H) (K : Nat) (M4 : xn) (M6 : Int) (M5 : Int) (M7 : Nat) (Na : qk) (Nh : Nat) (Nb : qk) (M8 : xM Na M7 ([xf M4.text_, .map (some Nh)]) 55) (No : XM (K8 .u8) (K9 3) 3 (ci .i64) 1 Nh M4.seen_ Nb)
    (hS : St w H [Na, Nb] F) (hm : (zy.m K M4 M6 M5).wp kr kp)
    (hret : ∀ (Ni : Int) (w : World), kr Ni → St w H [Na, Nb] F → R (.returned (.int .i64 Ni)) w) :
    Calls Tryd.prog 48 ⟨[qL M7 0, .int .i64 M6, .int .i64 M5]⟩ w R := by
 refine enter Tryd.func48 rfl Tryd.ntmps48 rfl hS fun a w hS => ?_
 have hM := hm; clear hm
 rw [zy.m] at hM
 refine qm <| sA hS rfl fun hS => qA <| qm <| sA hS rfl fun hS => qA <| wp_seq <| xQ <| zv (fun Nf a w => ∃ (M3 : Int), Ss 43 [] [(0, qL M7 0), (1, .int .i64 M6), (2, .int .i64 M5), (7, .int .i64 M3)] H [Na, Nb] F a w ∧ (zy.l1 K M4 M6 M5 Nf M3).wp kr kp) K ?_ ?_ ?_
 ·exact ⟨(0 : Int), hS.to [0, 1] (by kernel_rfl) ⟨rfl, rfl, rfl, rfl, trivial⟩, hM⟩
 ·intro a w hI; obtain ⟨_, _, hM⟩ := hI; exact zu hM
 ·intro Nf a w hI Nq Nj
  obtain ⟨M3, hS, hM⟩ := hI
  rw [zy.l1] at hM
  refine wp_seq <| zl (fun a w => ∃ (Ng : Bool), Ss 43 [] [(0, qL M7 0), (1, .int .i64 M6), (2, .int .i64 M5), (7, .int .i64 M3), (39, .bool Ng)] H [Na, Nb] F a w ∧ (zy.j2 K (zy.l1 K M4 M6 M5 Nf) M3 Ng).wp kr kp) (fun Np Nc => ?_) ?_
  ·refine Lt (b := (decide (M3 < (258 : Int)))) hM (fun M9 hM => ?_) (fun M9 hM => ?_)
   ·refine Lt (b := (decide ((qg (M5 + M3)) < (M4.text_.length : Int)))) hM (fun Nd hM => ?_) (fun Nd hM => ?_)
    ·obtain ⟨Nl, hM⟩ := qK hM
     obtain ⟨Nm, hM⟩ := qK hM
     refine q9 (vals := [some (.int .i64 M3), some (.bool true), some (.bool true), some (.int .i64 M5), some (.int .i64 M3), some (.int .i64 (qg (M5 + M3))), some (qL M7 0), some (qL M7 0), some (qL M7 0), some (xf M4.text_), some (.int .i64 (M4.text_.length : Int)), some (.bool true), some (.bool true), some (.bool true), some (qL M7 0), some (qL M7 0), some (qL M7 0), some (xf M4.text_), some (.int .i64 M6), some (.int .i64 M3), some (.int .i64 (qg (M6 + M3))), some (.int .u8 ((rd M4.text_ (qg (M6 + M3))).toNat : Int)), some (qL M7 0), some (qL M7 0), some (qL M7 0), some (xf M4.text_), some (.int .i64 M5), some (.int .i64 M3), some (.int .i64 (qg (M5 + M3))), some (.int .u8 ((rd M4.text_ (qg (M5 + M3))).toNat : Int)), some (.bool (((rd M4.text_ (qg (M6 + M3))).toNat : Int) == ((rd M4.text_ (qg (M5 + M3))).toNat : Int))), some (.bool (((rd M4.text_ (qg (M6 + M3))).toNat : Int) == ((rd M4.text_ (qg (M5 + M3))).toNat : Int)))]) hS xF rfl ?_
     intro l w ho hcl hA hst
     refine yk hA hst ho hcl xG [0, 1, 2, 3, 4, 5, 6, 7, 8, 9, 10, 11, 12, 13, 14, 15, 16, 17, 18, 19, 20, 21, 22, 23, 24, 25, 26, 27, 28, 29, 30, 31] rfl rfl rfl (by exact ⟨nM rfl, nQ rfl (by exact qX (jv rfl rfl rfl) (congrArg Value.bool M9)), nM rfl, nW rfl rfl rfl rfl rfl rfl rfl rfl (by exact qX (mv rfl) rfl), nW rfl rfl rfl rfl rfl rfl rfl rfl (by exact qX (mv rfl) rfl), nW rfl rfl rfl rfl rfl rfl rfl rfl (by exact qX (jv rfl rfl rfl) rfl), nW rfl rfl rfl rfl rfl rfl rfl rfl (by exact qX (mv rfl) rfl), nW rfl rfl rfl rfl rfl rfl rfl rfl (by exact qX (yz rfl) rfl), nW rfl rfl rfl rfl rfl rfl rfl rfl (by exact qX (xw rfl Tryd.runUnderlying55 rfl Tryd.sizeOf9 rfl) rfl), nW rfl rfl rfl rfl rfl rfl rfl rfl (by exact qX (x5 0 rfl M8 rfl rfl Tryd.isAgg9) rfl), nW rfl rfl rfl rfl rfl rfl rfl rfl (by exact qX (uY rfl Tryd.runUnderlying9) rfl), nW rfl rfl rfl rfl rfl rfl rfl rfl (by exact qX (jv rfl rfl rfl) (congrArg Value.bool Nd)), nQ rfl (by exact qX (pk rfl rfl rfl) rfl), nM rfl, nW rfl rfl rfl rfl rfl rfl rfl rfl (by exact qX (mv rfl) rfl), nW rfl rfl rfl rfl rfl rfl rfl rfl (by exact qX (yz rfl) rfl), nW rfl rfl rfl rfl rfl rfl rfl rfl (by exact qX (xw rfl Tryd.runUnderlying55 rfl Tryd.sizeOf9 rfl) rfl), nW rfl rfl rfl rfl rfl rfl rfl rfl (by exact qX (x5 0 rfl M8 rfl rfl Tryd.isAgg9) rfl), nW rfl rfl rfl rfl rfl rfl rfl rfl (by exact qX (mv rfl) rfl), nW rfl rfl rfl rfl rfl rfl rfl rfl (by exact qX (mv rfl) rfl), nW rfl rfl rfl rfl rfl rfl rfl rfl (by exact qX (jv rfl rfl rfl) rfl), nW rfl rfl rfl rfl rfl rfl rfl rfl (by exact qX (Up rfl rfl Tryd.runUnderlying9 Nl) rfl), nW rfl rfl rfl rfl rfl rfl rfl rfl (by exact qX (mv rfl) rfl), nW rfl rfl rfl rfl rfl rfl rfl rfl (by exact qX (yz rfl) rfl), nW rfl rfl rfl rfl rfl rfl rfl rfl (by exact qX (xw rfl Tryd.runUnderlying55 rfl Tryd.sizeOf9 rfl) rfl), nW rfl rfl rfl rfl rfl rfl rfl rfl (by exact qX (x5 0 rfl M8 rfl rfl Tryd.isAgg9) rfl), nW rfl rfl rfl rfl rfl rfl rfl rfl (by exact qX (mv rfl) rfl), nW rfl rfl rfl rfl rfl rfl rfl rfl (by exact qX (mv rfl) rfl), nW rfl rfl rfl rfl rfl rfl rfl rfl (by exact qX (jv rfl rfl rfl) rfl), nW rfl rfl rfl rfl rfl rfl rfl rfl (by exact qX (Up rfl rfl Tryd.runUnderlying9 Nm) rfl), nW rfl rfl rfl rfl rfl rfl rfl rfl (by exact qX (jv rfl rfl rfl) rfl), nQ rfl (by exact qX (pk rfl rfl rfl) rfl), trivial⟩) fun a w hS => ?_
     replace hS := hS.env2 (e' := [(0, qL M7 0), (1, .int .i64 M6), (2, .int .i64 M5), (7, .int .i64 M3), (39, .bool (((rd M4.text_ (qg (M6 + M3))).toNat : Int) == ((rd M4.text_ (qg (M5 + M3))).toNat : Int)))]) ⟨rfl, rfl, rfl, rfl, rfl, trivial⟩
     refine qe ?_
     exact Nc _ _ ⟨(((rd M4.text_ (qg (M6 + M3))).toNat : Int) == ((rd M4.text_ (qg (M5 + M3))).toNat : Int)), hS.to [0, 1] (by kernel_rfl) ⟨rfl, rfl, rfl, rfl, rfl, trivial⟩, hM⟩
    ·refine q9 (vals := [some (.int .i64 M3), some (.bool true), some (.bool true), some (.int .i64 M5), some (.int .i64 M3), some (.int .i64 (qg (M5 + M3))), some (qL M7 0), some (qL M7 0), some (qL M7 0), some (xf M4.text_), some (.int .i64 (M4.text_.length : Int)), some (.bool false), some (.bool false), some (.bool false), some (undef), some (undef), some (undef), some (undef), some (undef), some (undef), some (undef), some (undef), some (undef), some (undef), some (undef), some (undef), some (undef), some (undef), some (undef), some (undef), some (undef), some (.bool false)]) hS xF rfl ?_
     intro l w ho hcl hA hst
     refine yk hA hst ho hcl xG [0, 1, 2, 3, 4, 5, 6, 7, 8, 9, 10, 11, 12, 13, 14, 15, 16, 17, 18, 19, 20, 21, 22, 23, 24, 25, 26, 27, 28, 29, 30, 31] rfl rfl rfl (by exact ⟨nM rfl, nQ rfl (by exact qX (jv rfl rfl rfl) (congrArg Value.bool M9)), nM rfl, nW rfl rfl rfl rfl rfl rfl rfl rfl (by exact qX (mv rfl) rfl), nW rfl rfl rfl rfl rfl rfl rfl rfl (by exact qX (mv rfl) rfl), nW rfl rfl rfl rfl rfl rfl rfl rfl (by exact qX (jv rfl rfl rfl) rfl), nW rfl rfl rfl rfl rfl rfl rfl rfl (by exact qX (mv rfl) rfl), nW rfl rfl rfl rfl rfl rfl rfl rfl (by exact qX (yz rfl) rfl), nW rfl rfl rfl rfl rfl rfl rfl rfl (by exact qX (xw rfl Tryd.runUnderlying55 rfl Tryd.sizeOf9 rfl) rfl), nW rfl rfl rfl rfl rfl rfl rfl rfl (by exact qX (x5 0 rfl M8 rfl rfl Tryd.isAgg9) rfl), nW rfl rfl rfl rfl rfl rfl rfl rfl (by exact qX (uY rfl Tryd.runUnderlying9) rfl), nW rfl rfl rfl rfl rfl rfl rfl rfl (by exact qX (jv rfl rfl rfl) (congrArg Value.bool Nd)), nQ rfl (by exact qX (pk rfl rfl rfl) rfl), nM rfl, nS rfl rfl rfl rfl rfl rfl rfl rfl rfl, nS rfl rfl rfl rfl rfl rfl rfl rfl rfl, nS rfl rfl rfl rfl rfl rfl rfl rfl rfl, nS rfl rfl rfl rfl rfl rfl rfl rfl rfl, nS rfl rfl rfl rfl rfl rfl rfl rfl rfl, nS rfl rfl rfl rfl rfl rfl rfl rfl rfl, nS rfl rfl rfl rfl rfl rfl rfl rfl rfl, nS rfl rfl rfl rfl rfl rfl rfl rfl rfl, nS rfl rfl rfl rfl rfl rfl rfl rfl rfl, nS rfl rfl rfl rfl rfl rfl rfl rfl rfl, nS rfl rfl rfl rfl rfl rfl rfl rfl rfl, nS rfl rfl rfl rfl rfl rfl rfl rfl rfl, nS rfl rfl rfl rfl rfl rfl rfl rfl rfl, nS rfl rfl rfl rfl rfl rfl rfl rfl rfl, nS rfl rfl rfl rfl rfl rfl rfl rfl rfl, nS rfl rfl rfl rfl rfl rfl rfl rfl rfl, nS rfl rfl rfl rfl rfl rfl rfl rfl rfl, nQ rfl (by exact qX (pk rfl rfl rfl) rfl), trivial⟩) fun a w hS => ?_
     replace hS := hS.env2 (e' := [(0, qL M7 0), (1, .int .i64 M6), (2, .int .i64 M5), (7, .int .i64 M3), (39, .bool false)]) ⟨rfl, rfl, rfl, rfl, rfl, trivial⟩
     refine qe ?_
     exact Nc _ _ ⟨false, hS.to [0, 1] (by kernel_rfl) ⟨rfl, rfl, rfl, rfl, rfl, trivial⟩, hM⟩
   ·refine q9 (vals := [some (.int .i64 M3), some (.bool false), some (.bool false), some (undef), some (undef), some (undef), some (undef), some (undef), some (undef), some (undef), some (undef), some (undef), some (.bool false), some (.bool false), some (undef), some (undef), some (undef), some (undef), some (undef), some (undef), some (undef), some (undef), some (undef), some (undef), some (undef), some (undef), some (undef), some (undef), some (undef), some (undef), some (undef), some (.bool false)]) hS xF rfl ?_
    intro l w ho hcl hA hst
    refine yk hA hst ho hcl xG [0, 1, 2, 3, 4, 5, 6, 7, 8, 9, 10, 11, 12, 13, 14, 15, 16, 17, 18, 19, 20, 21, 22, 23, 24, 25, 26, 27, 28, 29, 30, 31] rfl rfl rfl (by exact ⟨nM rfl, nQ rfl (by exact qX (jv rfl rfl rfl) (congrArg Value.bool M9)), nM rfl, nS rfl rfl rfl rfl rfl rfl rfl rfl rfl, nS rfl rfl rfl rfl rfl rfl rfl rfl rfl, nS rfl rfl rfl rfl rfl rfl rfl rfl rfl, nS rfl rfl rfl rfl rfl rfl rfl rfl rfl, nS rfl rfl rfl rfl rfl rfl rfl rfl rfl, nS rfl rfl rfl rfl rfl rfl rfl rfl rfl, nS rfl rfl rfl rfl rfl rfl rfl rfl rfl, nS rfl rfl rfl rfl rfl rfl rfl rfl rfl, nS rfl rfl rfl rfl rfl rfl rfl rfl rfl, nQ rfl (by exact qX (pk rfl rfl rfl) rfl), nM rfl, nS rfl rfl rfl rfl rfl rfl rfl rfl rfl, nS rfl rfl rfl rfl rfl rfl rfl rfl rfl, nS rfl rfl rfl rfl rfl rfl rfl rfl rfl, nS rfl rfl rfl rfl rfl rfl rfl rfl rfl, nS rfl rfl rfl rfl rfl rfl rfl rfl rfl, nS rfl rfl rfl rfl rfl rfl rfl rfl rfl, nS rfl rfl rfl rfl rfl rfl rfl rfl rfl, nS rfl rfl rfl rfl rfl rfl rfl rfl rfl, nS rfl rfl rfl rfl rfl rfl rfl rfl rfl, nS rfl rfl rfl rfl rfl rfl rfl rfl rfl, nS rfl rfl rfl rfl rfl rfl rfl rfl rfl, nS rfl rfl rfl rfl rfl rfl rfl rfl rfl, nS rfl rfl rfl rfl rfl rfl rfl rfl rfl, nS rfl rfl rfl rfl rfl rfl rfl rfl rfl, nS rfl rfl rfl rfl rfl rfl rfl rfl rfl, nS rfl rfl rfl rfl rfl rfl rfl rfl rfl, nS rfl rfl rfl rfl rfl rfl rfl rfl rfl, nQ rfl (by exact qX (pk rfl rfl rfl) rfl), trivial⟩) fun a w hS => ?_
    replace hS := hS.env2 (e' := [(0, qL M7 0), (1, .int .i64 M6), (2, .int .i64 M5), (7, .int .i64 M3), (39, .bool false)]) ⟨rfl, rfl, rfl, rfl, rfl, trivial⟩
    refine qe ?_
    exact Nc _ _ ⟨false, hS.to [0, 1] (by kernel_rfl) ⟨rfl, rfl, rfl, rfl, rfl, trivial⟩, hM⟩
  ·intro a w hI
   obtain ⟨Ng, hS, hM⟩ := hI
   rw [zy.j2] at hM
   refine qF hS rfl hM (fun Nk hM => ?_) (fun Nk hM => ?_)
   ·refine wp_skip ?_
    refine qe <| xQ <| zM <| sM hS rfl fun hS => sB hS rfl fun hS => zF (v := Value.int .i64) (x0 := (qg (M3 + (1 : Int)))) hS (xA rfl) rfl fun Nn a w hz hS => ?_
    have hM := qz hz hM; clear hz
    refine zo <| zx (qe ?_)
    exact Nj _ _ ⟨Nn, hS.to [0, 1] (by kernel_rfl) ⟨rfl, rfl, rfl, rfl, trivial⟩, hM⟩
   ·refine wp_exit ?_
    refine qE (qE (zd (qe ?_)))
    refine qm <| sM hS rfl fun hS => sA hS rfl fun hS => qA <| wp_ret ?_
    exact zE (rs := [6]) hS rfl rfl (hret M3 _ (q8 hM) (hS.st.pick [0, 1] (by kernel_rfl)))
theorem QU {H : xT} {F : List qk} {w : World} {R : Ending → World → Prop} {kr : (Int × Int) → Prop} {kp : Value → Prop} (hG : Gl H) (K : Nat) (M4 : xn) (M3 : Int) (M6 : Nat) (Nc : qk) (Nf : Nat) (Nd : qk) (Nh : xM Nc M6 ([xf M4.text_, .map (some Nf)]) 55) (Nm : XM (K8 .u8) (K9 3) 3 (ci .i64) 1 Nf M4.seen_ Nd)
    (hS : St w H [Nc, Nd] F) (hm : (zP.m K M4 M3).wp kr kp)
    (hret : ∀ (Nq : Int) (Nk : Int) (w : World), kr (Nq, Nk) → St w H [Nc, Nd] F → R (.returned (.agg ⟨[.int .u8 (0 : Int), .int .i64 Nq, .int .i64 Nk]⟩)) w) :
    Calls Tryd.prog 26 ⟨[qL M6 0, .int .i64 M3]⟩ w R := by
 refine enter Tryd.func26 rfl Tryd.ntmps26 rfl hS fun a w hS => ?_
 have hM := hm; clear hm
 rw [zP.m] at hM
 refine qm <| QI ([.int .u8 (0 : Int), .int .i64 (0 : Int), .int .i64 (0 : Int)]) hS Tryd.zeroValue57 rfl rfl fun w Nu Np Nw hS => qA <| qm <| QI ([.int .u8 (0 : Int), .int .i64 (0 : Int), .int .i64 (0 : Int)]) hS Tryd.zeroValue57 rfl rfl fun w Nj NC Nx hS => qA <| wp_seq <| qm <| sM hS rfl fun hS => sB hS rfl fun hS => sM hS rfl fun hS => sO hS (yz rfl) rfl fun hS => sO hS (xw rfl Tryd.runUnderlying55 rfl Tryd.sizeOf9 rfl) rfl fun hS => sO hS (x5 2 rfl Nh rfl rfl Tryd.isAgg9) rfl fun hS => sO hS (uY rfl Tryd.runUnderlying9) rfl fun hS => sB hS rfl fun hS => qA <| qF hS rfl hM (fun NI hM => ?_) (fun NI hM => ?_)
 ·refine wp_seq ?_
  refine zM <| sO hS (uX 0 rfl Nx rfl ([.int .u8 (0 : Int), .int .i64 (0 : Int), .int .i64 (0 : Int)]) rfl rfl Tryd.isAgg57 Tryd.sizeOf57) rfl fun hS => QX 1 ([.int .u8 (0 : Int), .int .i64 (0 : Int), .int .i64 (0 : Int)]) ([.int .u8 (0 : Int), .int .i64 (0 : Int), .int .i64 (0 : Int)]) hS rfl rfl Nw rfl rfl Tryd.sizeOf57 (by simp [Value.oneCell']) (Nat.le_of_ble_eq_true rfl) rfl fun w NQ NE hS => qA <| wp_ret <| zk ?_
  exact jl (vs := [.agg ⟨[.int .u8 (0 : Int), .int .i64 (0 : Int), .int .i64 (0 : Int)]⟩]) hS rfl (by exact ⟨Kl 1 ([.int .u8 (0 : Int), .int .i64 (0 : Int), .int .i64 (0 : Int)]) rfl NE rfl rfl rfl Tryd.isAgg57 Tryd.sizeOf57, trivial⟩) (hret (0 : Int) (0 : Int) _ (q8 hM) (hS.st.pick [2, 3] (by kernel_rfl)))
 ·refine wp_skip ?_
  refine qe <| wp_seq <| q9 (vals := [some (qL M6 0), some (qL M6 0), some (qL M6 1), some (.map (some Nf)), some (qL M6 0), some (.int .i64 M3), none, none, none]) hS xF rfl ?_
  intro l w ho hcl hA hst
  refine jf hA hst ho hcl xu xG 6 [0, 1, 2, 3, 4, 5] rfl rfl rfl rfl rfl (by exact ⟨nM rfl, nQ rfl (by exact qX (yz rfl) rfl), nQ rfl (by exact qX (xw rfl Tryd.runUnderlying55 rfl Tryd.sizeOf53 rfl) rfl), nQ rfl (by exact qX (x5 2 rfl Nh rfl rfl Tryd.isAgg53) rfl), nM rfl, nM rfl, trivial⟩) fun D l a w ho hcl hav hpre hm hE hk hA hst => ?_
  have hS := (Ss.mk hE hst).env2 (e' := [(23, qL M6 0), (24, .int .i64 M3)]) ⟨rfl, rfl, trivial⟩
  refine qR rfl <| qI hS rfl Tryd.call47 (ul hG K M4 M3 M6 Nc Nf Nd Nh Nm (hS.st.part 2 [2, 3, 0, 1] (by kernel_rfl)) (qt hM) (fun  w hM  hst => qB hS.ev hst.appF rfl fun hS => ?_))
  replace hS : Ss _ _ _ H [Nc, Nd, NC, Np] F _ _ := hS
  refine qA ?_
  replace hst := hS.st
  obtain ⟨hcl, hmust, hav2, hA⟩ := dn (vals' := [some (qL M6 0), some (qL M6 0), some (qL M6 1), some (.map (some Nf)), some (qL M6 0), some (.int .i64 M3), some (.agg ⟨([((rd M4.text_ M3).toNat : Int), ((rd M4.text_ (qg (M3 + (1 : Int)))).toNat : Int), ((rd M4.text_ (qg (M3 + (2 : Int)))).toNat : Int)] : List Int).flatMap (ci .u8)⟩), none, none]) 6 [(4, 6), (5, 6)] hA hcl hav hm hpre hk rfl rfl rfl rfl rfl rfl rfl
  clear hm hav
  refine jf hA hst ho hcl hav2 hmust 7 [0, 1, 2, 3] rfl rfl rfl rfl rfl (by exact ⟨nM rfl, nQ rfl (by exact qX (yz rfl) rfl), nQ rfl (by exact qX (xw rfl Tryd.runUnderlying55 rfl Tryd.sizeOf53 rfl) rfl), nQ rfl (by exact qX (x5 0 rfl Nh rfl rfl Tryd.isAgg53) rfl), trivial⟩) fun D l a w ho hcl hav hpre hm hE hk hA hst => ?_
  have hS := (Ss.mk hE hst).env2 (e' := [(22, .map (some Nf)), (25, .agg ⟨([((rd M4.text_ M3).toNat : Int), ((rd M4.text_ (qg (M3 + (1 : Int)))).toNat : Int), ((rd M4.text_ (qg (M3 + (2 : Int)))).toNat : Int)] : List Int).flatMap (ci .u8)⟩)]) ⟨rfl, rfl, trivial⟩
  refine qR rfl <| MN (kv := K8 .u8) (ok := K9 3) (E := 3) (g := (ci .i64)) (sz := 1) (q := ([((rd M4.text_ M3).toNat : Int), ((rd M4.text_ (qg (M3 + (1 : Int)))).toNat : Int), ((rd M4.text_ (qg (M3 + (2 : Int)))).toNat : Int)] : List Int)) 1 hS rfl rfl rfl rfl Nm rfl (BG Tryd.runUnderlying100 Tryd.runUnderlying5 Tryd.sizeOf5 Tryd.isAgg5) Tryd.runUnderlying53 Tryd.zeroValue66 (fun _ => rfl) rfl rfl fun Na Nn No w hz NB NN hS => ?_
  have hM := qz hz hM; clear hz
  refine qA ?_
  replace hst := hS.st
  obtain ⟨hcl, hmust, hav2, hA⟩ := dn (vals' := [some (qL M6 0), some (qL M6 0), some (qL M6 1), some (.map (some Nf)), some (qL M6 0), some (.int .i64 M3), some (.agg ⟨([((rd M4.text_ M3).toNat : Int), ((rd M4.text_ (qg (M3 + (1 : Int)))).toNat : Int), ((rd M4.text_ (qg (M3 + (2 : Int)))).toNat : Int)] : List Int).flatMap (ci .u8)⟩), some (.slice Nn Na.length No), some (.slice Nn Na.length No)]) 7 [(3, 7), (6, 7), (2, 3), (4, 6), (5, 6), (1, 2), (0, 1)] hA hcl hav hm hpre hk rfl rfl rfl rfl rfl rfl rfl
  clear hm hav
  refine yk hA hst ho hcl hmust [8] rfl rfl rfl (by exact ⟨nA rfl, trivial⟩) fun a w hS => ?_
  replace hS := hS.env2 (e' := [(0, qL M6 0), (1, .int .i64 M3), (4, qL Nu 0), (5, qL Nj 0), (6, .slice Nn Na.length No)]) ⟨rfl, rfl, rfl, rfl, rfl, trivial⟩
  refine qe <| zl (fun a w => ∃ (M8 : Int) (M7 : Int) (Nv : qk), Ss 63 [] [(4, qL Nu 0), (5, qL Nj 0)] H [Nc, Nd, Np, Nv] F a w ∧ (xM Nv Nj ([.int .u8 (0 : Int), .int .i64 M8, .int .i64 M7]) 57) ∧ (zP.j2 K M8 M7).wp kr kp) (fun NP Nz => ?_) ?_
  ·refine wp_seq ?_
   refine zM <| sA hS rfl fun hS => qA <| xQ <| zv (fun ND a w => ∃ (Nb : Int) (M9 : Int) (Ng : qk) (M5 : Int), Ss 63 [] [(0, qL M6 0), (1, .int .i64 M3), (4, qL Nu 0), (5, qL Nj 0), (6, .slice Nn Na.length No), (7, .int .i64 M5)] H [Nc, Nd, Np, Ng] F a w ∧ (xM Ng Nj ([.int .u8 (0 : Int), .int .i64 Nb, .int .i64 M9]) 57) ∧ (zP.l1 K M4 M3 Na ND Nb M9 M5).wp kr kp) K ?_ ?_ ?_
   ·exact ⟨(0 : Int), (0 : Int), NC, (0 : Int), hS.to [0, 1, 3, 2] (by kernel_rfl) ⟨rfl, rfl, rfl, rfl, rfl, rfl, trivial⟩, Nx, hM⟩
   ·intro a w hI; obtain ⟨_, _, _, _, _, _, hM⟩ := hI; exact zu hM
   ·intro ND a w hI NO Ny
    obtain ⟨Nb, M9, Ng, M5, hS, Ni, hM⟩ := hI
    rw [zP.l1] at hM
    refine wp_seq <| qm <| sM hS rfl fun hS => sB hS rfl fun hS => sM hS rfl fun hS => y4 4 true 29 (b := (decide (M5 < (32 : Int)))) (r := (decide (M5 < (Na.length : Int)))) hS rfl rfl rfl rfl rfl rfl rfl (fun hb a w hS K hK => ?_) rfl fun a w hS => ?_
    ·refine z2 hS rfl rfl rfl hb (mv rfl) rfl fun a w hS => ?_
     refine z2 hS rfl rfl rfl hb (mv rfl) rfl fun a w hS => z2 hS rfl rfl rfl hb (yc rfl Tryd.runUnderlying66) rfl fun a w hS => z2 hS rfl rfl rfl hb (jv rfl rfl rfl) rfl fun a w hS => ?_
     exact zo (hK _ _ (hS.up 4 rfl rfl))
    refine qA <| qF hS rfl hM (fun NJ hM => ?_) (fun NJ hM => ?_)
    ·refine wp_skip ?_
     refine qe <| wp_seq <| xQ <| qm <| sM hS rfl fun hS => sM hS rfl fun hS => sO hS (yc rfl Tryd.runUnderlying66) rfl fun hS => sB hS rfl fun hS => sM hS rfl fun hS => sB hS rfl fun hS => ?_
     obtain ⟨NA, hM⟩ := qK hM
     refine sO hS (yu rfl rfl Tryd.runUnderlying66 Tryd.sizeOf3 (NB.rd (i := 1) rfl) (fun _ => rfl) rfl NA) rfl fun hS => sO hS (yG rfl (NB.rd (i := 1) rfl) (fun _ => rfl) NA rfl Tryd.isAgg3) rfl fun hS => zF (v := Value.int .i64) (x0 := (rd Na (qg ((qg ((Na.length : Int) - (1 : Int))) - M5)))) hS (xA rfl) rfl fun Nl a w hz hS => ?_
     have hM := qz hz hM; clear hz
     refine qA <| wp_seq <| qm <| sM hS rfl fun hS => sM hS rfl fun hS => sB hS rfl fun hS => sB hS rfl fun hS => qA <| qF hS rfl hM (fun NK hM => ?_) (fun NK hM => ?_)
     ·refine wp_exit ?_
      refine qE (Bj rfl (qE (qE (zd (qe ?_)))))
      exact Nz _ _ ⟨Nb, M9, Ng, hS.to [0, 1, 2, 3] (by kernel_rfl) ⟨rfl, rfl, trivial⟩, Ni, hM⟩
     ·refine wp_skip ?_
      refine qe <| qm <| sM hS rfl fun hS => sM hS rfl fun hS => sM hS rfl fun hS => qI hS rfl Tryd.call48 (QV hG K M4 Nl M3 M6 Nc Nf Nd Nh Nm (hS.st.part 2 [0, 1, 2, 3] (by kernel_rfl)) (qt hM) (fun Nr w hM  hst => qB hS.ev hst.appF rfl fun hS => ?_))
      replace hS : Ss _ _ _ H [Nc, Nd, Np, Ng] F _ _ := hS
      refine sA hS rfl fun hS => qA <| qm <| sM hS rfl fun hS => sO hS (xw rfl Tryd.runUnderlying57 rfl Tryd.sizeOf3 rfl) rfl fun hS => sO hS (x5 3 rfl Ni rfl rfl Tryd.isAgg3) rfl fun hS => sB hS rfl fun hS => qA <| qF hS rfl hM (fun NL hM => ?_) (fun NL hM => ?_)
      ·refine zM ?_
       refine sM hS rfl fun hS => sM hS rfl fun hS => sM hS rfl fun hS => sB hS rfl fun hS => sO hS (Xw ([.int .u8 (0 : Int), .int .i64 Nr, .int .i64 (qg (M3 - Nl))]) [(0, 1), (1, 1), (2, 1)] Tryd.zeroValue57 Tryd.runUnderlying57 (by intro w; simp [Tryd.sizeOf3, Tryd.sizeOf5]) rfl rfl) rfl fun hS => QX 3 ([.int .u8 (0 : Int), .int .i64 Nr, .int .i64 (qg (M3 - Nl))]) ([.int .u8 (0 : Int), .int .i64 Nr, .int .i64 (qg (M3 - Nl))]) hS rfl rfl Ni rfl rfl Tryd.sizeOf57 (by simp [Value.oneCell']) (Nat.le_of_ble_eq_true rfl) rfl fun w NM NF hS => zo <| zx (qe ?_)
       refine zM <| sM hS rfl fun hS => sB hS rfl fun hS => zF (v := Value.int .i64) (x0 := (qg (M5 + (1 : Int)))) hS (xA rfl) rfl fun Ns a w hz hS => ?_
       have hM := qz hz hM; clear hz
       refine zo <| qe ?_
       exact Ny _ _ ⟨Nr, (qg (M3 - Nl)), NM, Ns, hS.to [0, 1, 2, 3] (by kernel_rfl) ⟨rfl, rfl, rfl, rfl, rfl, rfl, trivial⟩, NF, hM⟩
      ·refine wp_skip ?_
       refine zx (qe ?_)
       refine zM <| sM hS rfl fun hS => sB hS rfl fun hS => zF (v := Value.int .i64) (x0 := (qg (M5 + (1 : Int)))) hS (xA rfl) rfl fun Nt a w hz hS => ?_
       have hM := qz hz hM; clear hz
       refine zo <| qe ?_
       exact Ny _ _ ⟨Nb, M9, Ng, Nt, hS.to [0, 1, 2, 3] (by kernel_rfl) ⟨rfl, rfl, rfl, rfl, rfl, rfl, trivial⟩, Ni, hM⟩
    ·refine wp_exit ?_
     refine qE (qE (zd (qe ?_)))
     exact Nz _ _ ⟨Nb, M9, Ng, hS.to [0, 1, 2, 3] (by kernel_rfl) ⟨rfl, rfl, trivial⟩, Ni, hM⟩
  ·intro a w hI
   obtain ⟨M8, M7, Nv, hS, NG, hM⟩ := hI
   rw [zP.j2] at hM
   refine qm <| sO hS (uX 3 rfl NG rfl ([.int .u8 (0 : Int), .int .i64 M8, .int .i64 M7]) rfl rfl Tryd.isAgg57 Tryd.sizeOf57) rfl fun hS => QX 2 ([.int .u8 (0 : Int), .int .i64 M8, .int .i64 M7]) ([.int .u8 (0 : Int), .int .i64 M8, .int .i64 M7]) hS rfl rfl Nw rfl rfl Tryd.sizeOf57 (by simp [Value.oneCell']) (Nat.le_of_ble_eq_true rfl) rfl fun w NR NH hS => qA <| wp_ret ?_
   exact jl (vs := [.agg ⟨[.int .u8 (0 : Int), .int .i64 M8, .int .i64 M7]⟩]) hS rfl (by exact ⟨Kl 2 ([.int .u8 (0 : Int), .int .i64 M8, .int .i64 M7]) rfl NH rfl rfl rfl Tryd.isAgg57 Tryd.sizeOf57, trivial⟩) (hret M8 M7 _ (q8 hM) (hS.st.pick [0, 1] (by kernel_rfl)))
theorem QW {H : xT} {F : List qk} {w : World} {R : Ending → World → Prop} {kr : (List ((List Int) × (List Int))) → Prop} {kp : Value → Prop} (hG : Gl H) (K : Nat) (M3 : xn) (M4 : Int) (M5 : Nat) (Ng : qk) (M6 : Nat) (Nh : qk) (Nb : xM Ng M5 ([xf M3.text_, .map (some M6)]) 55) (Nj : XM (K8 .u8) (K9 3) 3 (ci .i64) 1 M6 M3.seen_ Nh)
    (hS : St w H [Ng, Nh] F) (hm : (yH.m K M3 M4).wp kr kp)
    (hret : ∀ (Ni : (List ((List Int) × (List Int)))) (Nn : qk) (w : World), kr Ni → (XM (K8 .u8) (K9 3) 3 (ci .i64) 1 M6 Ni Nn) → St w H [Ng, Nn] F → R (.returned (.tuple ⟨[]⟩)) w) :
    Calls Tryd.prog 27 ⟨[qL M5 0, .int .i64 M4]⟩ w R := by
 refine enter Tryd.func27 rfl Tryd.ntmps27 rfl hS fun a w hS => ?_
 have hM := hm; clear hm
 rw [yH.m] at hM
 refine qm <| sM hS rfl fun hS => sB hS rfl fun hS => sM hS rfl fun hS => sO hS (yz rfl) rfl fun hS => sO hS (xw rfl Tryd.runUnderlying55 rfl Tryd.sizeOf9 rfl) rfl fun hS => sO hS (x5 0 rfl Nb rfl rfl Tryd.isAgg9) rfl fun hS => sO hS (uY rfl Tryd.runUnderlying9) rfl fun hS => sB hS rfl fun hS => qA <| qF hS rfl hM (fun Nu hM => ?_) (fun Nu hM => ?_)
 ·refine wp_seq ?_
  refine zM <| sM hS rfl fun hS => sM hS rfl fun hS => qI hS rfl Tryd.call47 (ul hG K M3 M4 M5 Ng M6 Nh Nb Nj (hS.st.part 2 [0, 1] (by kernel_rfl)) (qt hM) (fun  w hM  hst => qB hS.ev hst.appF rfl fun hS => ?_))
  replace hS : Ss _ _ _ H [Ng, Nh] F _ _ := hS
  refine QI ((List.replicate 3 (0 : Int)).flatMap (ci .u8)) hS Tryd.zeroValue100 rfl rfl fun w Nw NA No hS => YK (xs := (List.replicate 3 (0 : Int))) (ys := ([((rd M3.text_ M4).toNat : Int), ((rd M3.text_ (qg (M4 + (1 : Int)))).toNat : Int), ((rd M3.text_ (qg (M4 + (2 : Int)))).toNat : Int)] : List Int)) (g := (ci .u8)) (pre := []) (post := []) 0 hS rfl rfl No rfl (by simp) rfl (xg (g := (ci .u8)) (sz := 1) (fun _ => rfl) (List.length_replicate ..)) (xg (g := (ci .u8)) (sz := 1) (fun _ => rfl) rfl) (u4) Tryd.sizeOf100 fun w Nx Nc hS => ?_
  replace Nc : xM Nx Nw (([((rd M3.text_ M4).toNat : Int), ((rd M3.text_ (qg (M4 + (1 : Int)))).toNat : Int), ((rd M3.text_ (qg (M4 + (2 : Int)))).toNat : Int)] : List Int).flatMap (ci .u8)) 100 := by simpa using Nc
  refine qA <| q9 (vals := [some (qL M5 0), some (qL M5 0), some (qL M5 1), some (.map (some M6)), some (.agg ⟨([((rd M3.text_ M4).toNat : Int), ((rd M3.text_ (qg (M4 + (1 : Int)))).toNat : Int), ((rd M3.text_ (qg (M4 + (2 : Int)))).toNat : Int)] : List Int).flatMap (ci .u8)⟩), some (.int .i64 M4), none, none, none, none, none, none]) hS xF rfl ?_
  intro l w ho hcl hA hst
  refine jf hA hst ho hcl xu xG 6 [0, 1, 2, 3, 4, 5] rfl rfl rfl rfl rfl (by exact ⟨nM rfl, nQ rfl (by exact qX (yz rfl) rfl), nQ rfl (by exact qX (xw rfl Tryd.runUnderlying55 rfl Tryd.sizeOf53 rfl) rfl), nQ rfl (by exact qX (x5 1 rfl Nb rfl rfl Tryd.isAgg53) rfl), nQ rfl (by exact qX (YJ (xs := ([((rd M3.text_ M4).toNat : Int), ((rd M3.text_ (qg (M4 + (1 : Int)))).toNat : Int), ((rd M3.text_ (qg (M4 + (2 : Int)))).toNat : Int)] : List Int)) (g := (ci .u8)) (pre := []) (post := []) 0 rfl Nc rfl (by simp) rfl (xg (g := (ci .u8)) (sz := 1) (fun _ => rfl) rfl) Tryd.isAgg100 Tryd.sizeOf100) rfl), nM rfl, trivial⟩) fun D l a w ho hcl hav hpre hm hE hk hA hst => ?_
  have hS := (Ss.mk hE hst).env2 (e' := [(22, .int .i64 M4)]) ⟨rfl, trivial⟩
  refine qR rfl <| Jv (g := (ci .i64)) ([M4] : List Int) [.int .i64 M4] hS Tryd.runUnderlying66 Tryd.sizeOf3 X.el3 rfl rfl rfl (by simp [Value.cells]) rfl rfl rfl rfl rfl fun w Nd Nf NB Nr hS => qA ?_
  replace hst := hS.st
  obtain ⟨hcl, hmust, hav2, hA⟩ := dn (vals' := [some (qL M5 0), some (qL M5 0), some (qL M5 1), some (.map (some M6)), some (.agg ⟨([((rd M3.text_ M4).toNat : Int), ((rd M3.text_ (qg (M4 + (1 : Int)))).toNat : Int), ((rd M3.text_ (qg (M4 + (2 : Int)))).toNat : Int)] : List Int).flatMap (ci .u8)⟩), some (.int .i64 M4), some (.slice Nd ([M4] : List Int).length Nf), none, none, none, none, none]) 6 [(5, 6)] hA hcl hav hm hpre hk rfl rfl rfl rfl rfl rfl rfl
  clear hm hav
  refine jf hA hst ho hcl hav2 hmust 7 [0, 1, 2, 3, 4] rfl rfl rfl rfl rfl (by exact ⟨nM rfl, nQ rfl (by exact qX (yz rfl) rfl), nQ rfl (by exact qX (xw rfl Tryd.runUnderlying55 rfl Tryd.sizeOf53 rfl) rfl), nQ rfl (by exact qX (x5 2 rfl Nb rfl rfl Tryd.isAgg53) rfl), nQ rfl (by exact qX (YJ (xs := ([((rd M3.text_ M4).toNat : Int), ((rd M3.text_ (qg (M4 + (1 : Int)))).toNat : Int), ((rd M3.text_ (qg (M4 + (2 : Int)))).toNat : Int)] : List Int)) (g := (ci .u8)) (pre := []) (post := []) 1 rfl Nc rfl (by simp) rfl (xg (g := (ci .u8)) (sz := 1) (fun _ => rfl) rfl) Tryd.isAgg100 Tryd.sizeOf100) rfl), trivial⟩) fun D l a w ho hcl hav hpre hm hE hk hA hst => ?_
  have hS := (Ss.mk hE hst).env2 (e' := [(19, .map (some M6)), (20, .agg ⟨([((rd M3.text_ M4).toNat : Int), ((rd M3.text_ (qg (M4 + (1 : Int)))).toNat : Int), ((rd M3.text_ (qg (M4 + (2 : Int)))).toNat : Int)] : List Int).flatMap (ci .u8)⟩)]) ⟨rfl, rfl, trivial⟩
  refine qR rfl ?_
  replace hS := hS.front [3, 0, 1, 2] (by kernel_rfl)
  refine MO (kv := K8 .u8) (ok := K9 3) (E := 3) (g := (ci .i64)) (sz := 1) (q := ([((rd M3.text_ M4).toNat : Int), ((rd M3.text_ (qg (M4 + (1 : Int)))).toNat : Int), ((rd M3.text_ (qg (M4 + (2 : Int)))).toNat : Int)] : List Int)) hS rfl rfl rfl rfl Nj (BG Tryd.runUnderlying100 Tryd.runUnderlying5 Tryd.sizeOf5 Tryd.isAgg5) Tryd.runUnderlying53 Tryd.zeroValue66 rfl fun M7 w M8 M9 Na NC ND hz Ns Np hS => ?_
  have hM := qz hz hM; clear hz
  refine qA ?_
  replace hst := hS.st
  obtain ⟨hcl, hmust, hav2, hA⟩ := dn (vals' := [some (qL M5 0), some (qL M5 0), some (qL M5 1), some (.map (some M6)), some (.agg ⟨([((rd M3.text_ M4).toNat : Int), ((rd M3.text_ (qg (M4 + (1 : Int)))).toNat : Int), ((rd M3.text_ (qg (M4 + (2 : Int)))).toNat : Int)] : List Int).flatMap (ci .u8)⟩), some (.int .i64 M4), some (.slice Nd ([M4] : List Int).length Nf), some (.tuple ⟨[.slice M8 M7.length M9, .int .i64 ((Na : Nat) : Int)]⟩), some (.slice M8 M7.length M9), none, some (.int .i64 ((Na : Nat) : Int)), none]) 7 [(0, 7), (1, 7), (2, 7), (3, 7), (4, 7), (5, 7), (6, 7)] hA hcl hav hm hpre hk rfl rfl rfl rfl rfl rfl rfl
  clear hm hav
  refine jf hA hst ho hcl hav2 hmust 9 [8, 10] rfl rfl rfl rfl rfl (by exact ⟨nQ rfl (by exact qX (ex rfl rfl) rfl), nQ rfl (by exact qX (ex rfl rfl) rfl), trivial⟩) fun D l a w ho hcl hav hpre hm hE hk hA hst => ?_
  have hS := (Ss.mk hE hst).env2 (e' := [(21, .slice M8 M7.length M9), (23, .slice Nd ([M4] : List Int).length Nf)]) ⟨rfl, rfl, trivial⟩
  refine qR rfl ?_
  obtain ⟨Nv, hM⟩ := qK hM
  refine J5 (ys := ([M4] : List Int)) 0 hS rfl rfl Ns rfl (Nr.rd (i := 2) rfl) Tryd.runUnderlying66 Tryd.runUnderlying66 X.el3 (fun _ => rfl) rfl xJ Nv rfl fun Nk w Nl Nm NE hz Nt hS => ?_
  have hM := qz hz hM; clear hz
  refine qA ?_
  replace hst := hS.st
  obtain ⟨hcl, hmust, hav2, hA⟩ := dn (vals' := [some (qL M5 0), some (qL M5 0), some (qL M5 1), some (.map (some M6)), some (.agg ⟨([((rd M3.text_ M4).toNat : Int), ((rd M3.text_ (qg (M4 + (1 : Int)))).toNat : Int), ((rd M3.text_ (qg (M4 + (2 : Int)))).toNat : Int)] : List Int).flatMap (ci .u8)⟩), some (.int .i64 M4), some (.slice Nd ([M4] : List Int).length Nf), some (.tuple ⟨[.slice M8 M7.length M9, .int .i64 ((Na : Nat) : Int)]⟩), some (.slice M8 M7.length M9), some (.slice Nl Nk.length Nm), some (.int .i64 ((Na : Nat) : Int)), none]) 9 [(6, 9), (7, 9), (8, 9), (5, 6), (0, 7), (1, 7), (2, 7), (3, 7), (4, 7)] hA hcl hav hm hpre hk rfl rfl rfl rfl rfl rfl rfl
  clear hm hav
  refine jf hA hst ho hcl hav2 hmust 11 [10] rfl rfl rfl rfl rfl (by exact ⟨nQ rfl (by exact qX (ex rfl rfl) rfl), trivial⟩) fun D l a w ho hcl hav hpre hm hE hk hA hst => ?_
  have hS := (Ss.mk hE hst).env2 (e' := [(19, .map (some M6)), (25, .slice Nl Nk.length Nm), (26, .int .i64 ((Na : Nat) : Int))]) ⟨rfl, rfl, rfl, trivial⟩
  refine qR rfl ?_
  replace hS := hS.front [0, 1, 2, 3, 4] (by kernel_rfl)
  refine MI (kv := K8 .u8) (ok := K9 3) (E := 3) (g := (ci .i64)) (sz := 1) hS rfl rfl rfl Nt Np fun Nz w Ny hz Nq hS => ?_
  have hM := qz hz hM; clear hz
  refine qA ?_
  replace hst := hS.st
  obtain ⟨hcl, hmust, hav2, hA⟩ := Xy (vals' := [some (qL M5 0), some (qL M5 0), some (qL M5 1), some (.map (some M6)), some (.agg ⟨([((rd M3.text_ M4).toNat : Int), ((rd M3.text_ (qg (M4 + (1 : Int)))).toNat : Int), ((rd M3.text_ (qg (M4 + (2 : Int)))).toNat : Int)] : List Int).flatMap (ci .u8)⟩), some (.int .i64 M4), some (.slice Nd ([M4] : List Int).length Nf), some (.tuple ⟨[.slice M8 M7.length M9, .int .i64 ((Na : Nat) : Int)]⟩), some (.slice M8 M7.length M9), some (.slice Nl Nk.length Nm), some (.int .i64 ((Na : Nat) : Int)), some undef]) 11 [(0, 11), (1, 11), (2, 11), (3, 11), (4, 11), (5, 11), (6, 11), (7, 11), (8, 11), (9, 11), (10, 11)] hA hcl hav hm hpre rfl rfl rfl rfl rfl
  clear hm hav
  refine yk hA hst ho hcl hmust [] rfl rfl rfl trivial fun a w hS => ?_
  replace hS := hS.env2 (e' := []) trivial
  exact jS (rs := []) hS rfl rfl (hret Nz Ny _ (q8 hM) Nq (hS.st.pick [3, 0] (by kernel_rfl)))
 ·refine wp_skip ?_
  exact jS (rs := []) hS rfl rfl (hret M3.seen_ Nh _ (q8 hM) Nj (hS.st.pick [0, 1] (by kernel_rfl)))
theorem JN {H : xT} {F : List qk} {w : World} {R : Ending → World → Prop} {kr : (List qM) → Prop} {kp : Value → Prop} (hG : Gl H) (K : Nat) (M3 : List UInt8)
    (hS : St w H [] F) (hm : (zW.m K M3).wp kr kp)
    (hret : ∀ (NC : Option Addr) (NF : Nat) (NA : (List qM)) (NH : qk) (w : World), kr NA → (xj 57 qM.cells 3 NC NA NF NH) → St w H [NH] F → R (.returned (.slice NC NA.length NF)) w) :
    Calls Tryd.prog 14 ⟨[xf M3]⟩ w R := by
 refine enter Tryd.func14 rfl Tryd.ntmps14 rfl hS fun a w hS => ?_
 have hM := hm; clear hm
 rw [zW.m] at hM
 refine qm <| sA hS rfl fun hS => ?_
 obtain ⟨N8, N2, hS⟩ := hS.nilV 57 qM.cells 3
 refine qA <| qm <| sM hS rfl fun hS => MP (kv := K8 .u8) (ok := K9 3) (E := 3) (g := (ci .i64)) (sz := 1) hS rfl fun w Nf NW NN hS => sO hS (Xw ([xf M3, .map (some Nf)]) [(0, 1), (1, 1)] Tryd.zeroValue55 Tryd.runUnderlying55 (by intro w; simp [Tryd.sizeOf53, Tryd.sizeOf9]) rfl rfl) rfl fun hS => bx ([xf M3, .map (some Nf)]) hS rfl rfl rfl fun w Nk Nc Nt hS => sA hS rfl fun hS => qA <| qm <| sA hS rfl fun hS => ?_
 obtain ⟨NX, NO, hS⟩ := hS.nilV 57 qM.cells 3
 refine qA <| wp_seq <| qm <| sA hS rfl fun hS => qA <| xQ <| zv (fun Np a w => ∃ (M6 : (List ((List Int) × (List Int)))) (Nd : qk) (Nj : Option Addr) (Nl : Nat) (Na : (List qM)) (Ng : qk) (M8 : Int), Ss 41 [] [(0, xf M3), (3, qL Nk 0), (4, .slice Nj Na.length Nl), (5, .int .i64 M8)] H [Nc, Nd, Ng] F a w ∧ (XM (K8 .u8) (K9 3) 3 (ci .i64) 1 Nf M6 Nd) ∧ (xj 57 qM.cells 3 Nj Na Nl Ng) ∧ (zW.l1 K M3 Np M6 Na M8).wp kr kp) K ?_ ?_ ?_
 ·exact ⟨([] : List ((List Int) × (List Int))), NW, none, 0, ([] : List qM), NX, (0 : Int), hS.to [1, 2, 0] (by kernel_rfl) ⟨rfl, rfl, rfl, rfl, trivial⟩, NN, NO, hM⟩
 ·intro a w hI; obtain ⟨_, _, _, _, _, _, _, _, _, _, hM⟩ := hI; exact zu hM
 ·intro Np a w hI N6 NM
  obtain ⟨M6, Nd, Nj, Nl, Na, Ng, M8, hS, Nw, Ny, hM⟩ := hI
  rw [zW.l1] at hM
  refine wp_seq <| qm <| sM hS rfl fun hS => sM hS rfl fun hS => sO hS (uY rfl Tryd.runUnderlying9) rfl fun hS => sB hS rfl fun hS => qA <| qF hS rfl hM (fun NR hM => ?_) (fun NR hM => ?_)
  ·refine wp_skip ?_
   refine qe <| xQ <| qm <| sM hS rfl fun hS => sM hS rfl fun hS => qI hS rfl Tryd.call26 (QU hG K (xn.mk M3 M6) M8 Nk Nc Nf Nd Nt Nw (hS.st.part 2 [0, 1, 2] (by kernel_rfl)) (qt hM) (fun Ni Nb w hM  hst => qB hS.ev hst.appF rfl fun hS => ?_))
   replace hS : Ss _ _ _ H [Nc, Nd, Ng] F _ _ := hS
   refine QI ([.int .u8 (0 : Int), .int .i64 (0 : Int), .int .i64 (0 : Int)]) hS Tryd.zeroValue57 rfl rfl fun w ND N9 NJ hS => QX 0 ([.int .u8 (0 : Int), .int .i64 Ni, .int .i64 Nb]) ([.int .u8 (0 : Int), .int .i64 Ni, .int .i64 Nb]) hS rfl rfl NJ rfl rfl Tryd.sizeOf57 (by simp [Value.oneCell']) (Nat.le_of_ble_eq_true rfl) rfl fun w NY Nn hS => qA <| zl (fun a w => ∃ (M7 : Int) (M4 : Int) (M5 : Int) (Nr : qk), Ss 41 [] [(0, xf M3), (3, qL Nk 0), (4, .slice Nj Na.length Nl), (5, .int .i64 M8), (6, qL ND 0)] H [Nc, Nd, Ng, Nr] F a w ∧ (xM Nr ND ([.int .u8 M7, .int .i64 M4, .int .i64 M5]) 57) ∧ (zW.j2 K (zW.l1 K M3 Np) M3 M6 Na M8 M7 M4 M5).wp kr kp) (fun N4 Nv => ?_) ?_
   ·refine wp_seq ?_
    refine zM <| sO hS (xw rfl Tryd.runUnderlying57 rfl Tryd.sizeOf3 rfl) rfl fun hS => sO hS (x5 0 rfl Nn rfl rfl Tryd.isAgg3) rfl fun hS => sB hS rfl fun hS => qA <| qF hS rfl hM (fun NS hM => ?_) (fun NS hM => ?_)
    ·refine zM ?_
     refine sM hS rfl fun hS => sM hS rfl fun hS => ?_
     obtain ⟨NU, hM⟩ := qK hM
     refine sO hS (Up rfl rfl Tryd.runUnderlying9 NU) rfl fun hS => sO hS (Xw ([.int .u8 ((rd M3 M8).toNat : Int), .int .i64 (0 : Int), .int .i64 (0 : Int)]) [(0, 1), (1, 1), (2, 1)] Tryd.zeroValue57 Tryd.runUnderlying57 (by intro w; simp [Tryd.sizeOf3, Tryd.sizeOf5]) rfl rfl) rfl fun hS => QX 0 ([.int .u8 ((rd M3 M8).toNat : Int), .int .i64 (0 : Int), .int .i64 (0 : Int)]) ([.int .u8 ((rd M3 M8).toNat : Int), .int .i64 (0 : Int), .int .i64 (0 : Int)]) hS rfl rfl Nn rfl rfl Tryd.sizeOf57 (by simp [Value.oneCell']) (Nat.le_of_ble_eq_true rfl) rfl fun w NZ NK hS => zo <| qe ?_
     exact Nv _ _ ⟨((rd M3 M8).toNat : Int), (0 : Int), (0 : Int), NZ, hS.to [1, 2, 3, 0] (by kernel_rfl) ⟨rfl, rfl, rfl, rfl, rfl, trivial⟩, NK, hM⟩
    ·refine wp_skip ?_
     refine qe ?_
     exact Nv _ _ ⟨(0 : Int), Ni, Nb, NY, hS.to [1, 2, 3, 0] (by kernel_rfl) ⟨rfl, rfl, rfl, rfl, rfl, trivial⟩, Nn, hM⟩
   ·intro a w hI
    obtain ⟨M7, M4, M5, Nr, hS, Nu, hM⟩ := hI
    rw [zW.j2] at hM
    refine qm <| sM hS rfl fun hS => sO hS (uX 3 rfl Nu rfl ([.int .u8 M7, .int .i64 M4, .int .i64 M5]) rfl rfl Tryd.isAgg57 Tryd.sizeOf57) rfl fun hS => Jv (g := qM.cells) ([(qM.mk M7 M4 M5)] : List qM) [.agg ⟨[.int .u8 M7, .int .i64 M4, .int .i64 M5]⟩] hS Tryd.runUnderlying37 Tryd.sizeOf57 X.el57 rfl rfl rfl (by simp [Value.cells]) rfl rfl rfl rfl rfl fun w N3 N7 Pa NP hS => ?_
    obtain ⟨NV, hM⟩ := qK hM
    refine J5 (ys := ([(qM.mk M7 M4 M5)] : List qM)) 3 hS rfl rfl Ny rfl (NP.rd (i := 0) rfl) Tryd.runUnderlying37 Tryd.runUnderlying37 X.el57 (fun _ => rfl) rfl D7 NV rfl fun No w NB NE Ns hz NQ hS => ?_
    have hM := qz hz hM; clear hz
    refine sA hS rfl fun hS => qA <| qm <| sO hS (xw rfl Tryd.runUnderlying57 rfl Tryd.sizeOf3 rfl) rfl fun hS => sO hS (x5 4 rfl Nu rfl rfl Tryd.isAgg3) rfl fun hS => sO hS (D1 rfl rfl) rfl fun hS => sM hS rfl fun hS => qA <| xQ <| zv (fun NI a w => ∃ (M9 : (List ((List Int) × (List Int)))) (Nm : qk) (Nh : Int) (Nq : Int), Ss 41 [] [(0, xf M3), (3, qL Nk 0), (4, .slice NB No.length NE), (5, .int .i64 Nh), (31, .int .i64 (if M4 > (1 : Int) then M4 else (1 : Int))), (32, .int .i64 Nq)] H [Nc, Nm, Ns] F a w ∧ (XM (K8 .u8) (K9 3) 3 (ci .i64) 1 Nf M9 Nm) ∧ (zW.l3 K (zW.l1 K M3 Np) M3 M4 No NI M9 Nh Nq).wp kr kp) K ?_ ?_ ?_
    ·exact ⟨M6, Nd, M8, (0 : Int), hS.to [1, 2, 3] (by kernel_rfl) ⟨rfl, rfl, rfl, rfl, rfl, rfl, trivial⟩, Nw, hM⟩
    ·intro a w hI; obtain ⟨_, _, _, _, _, _, hM⟩ := hI; exact zu hM
    ·intro NI a w hI N5 NL
     obtain ⟨M9, Nm, Nh, Nq, hS, Nx, hM⟩ := hI
     rw [zW.l3] at hM
     refine qm <| sB hS rfl fun hS => qA <| wp_seq <| qF hS rfl hM (fun NT hM => ?_) (fun NT hM => ?_)
     ·refine wp_skip ?_
      refine qe <| wp_seq <| xQ <| qm <| sM hS rfl fun hS => sM hS rfl fun hS => qI hS rfl Tryd.call27 (QW hG K (xn.mk M3 M9) Nh Nk Nc Nf Nm Nt Nx (hS.st.part 2 [0, 1, 2] (by kernel_rfl)) (qt hM) (fun Nz NG w hM N0 hst => qB hS.ev hst.appF rfl fun hS => ?_))
      replace hS : Ss _ _ _ H [Nc, NG, Ns] F _ _ := hS
      refine qA <| zM <| sM hS rfl fun hS => sB hS rfl fun hS => zF (v := Value.int .i64) (x0 := (qg (Nh + (1 : Int)))) hS (xA rfl) rfl fun N1 a w hz hS => ?_
      have hM := qz hz hM; clear hz
      refine zo <| zx (qe ?_)
      refine zM <| sB hS rfl fun hS => sM hS rfl fun hS => zo <| qe ?_
      exact NL _ _ ⟨Nz, NG, N1, (qg (Nq + (1 : Int))), hS.to [0, 1, 2] (by kernel_rfl) ⟨rfl, rfl, rfl, rfl, rfl, rfl, trivial⟩, N0, hM⟩
     ·refine wp_exit ?_
      refine qE (qE (zd (zx (qe ?_))))
      exact NM _ _ ⟨M9, Nm, NB, NE, No, Ns, Nh, hS.to [0, 1, 2] (by kernel_rfl) ⟨rfl, rfl, rfl, rfl, trivial⟩, Nx, NQ, hM⟩
  ·refine wp_exit ?_
   refine qE (qE (zd (qe ?_)))
   refine qm <| sM hS rfl fun hS => sA hS rfl fun hS => qA <| wp_ret ?_
   exact zE (rs := [2]) hS rfl rfl (hret Nj Nl Na Ng _ (q8 hM) Ny (hS.st.pick [2] (by kernel_rfl)))
theorem ZL {H : xT} {F : List qk} {w : World} {R : Ending → World → Prop} {kr : (List UInt8) → Prop} {kp : Value → Prop} (hG : Gl H) (K : Nat) (Nd : List UInt8)
    (hS : St w H [] F) (hm : (zU.m K Nd).wp kr kp)
    (hret : ∀ (Ng : List UInt8) (w : World), kr Ng → St w H [] F → R (.returned (xf Ng)) w) :
    Calls Tryd.prog 15 ⟨[xf Nd]⟩ w R := by
 refine enter Tryd.func15 rfl Tryd.ntmps15 rfl hS fun a w hS => ?_
 have hM := hm; clear hm
 rw [zU.m] at hM
 refine qm <| sA hS rfl fun hS => qA <| qm <| sA hS rfl fun hS => ?_
 obtain ⟨Nu, Ni, hS⟩ := hS.nilV 5 (ci .u8) 1
 refine qA <| xQ <| zv (fun Nc a w => ∃ (M5 : List UInt8) (M7 : Option Addr) (M8 : Nat) (M6 : (List Int)) (M9 : qk), Ss 41 [] [(0, xf M5), (3, .slice M7 M6.length M8)] H [M9] F a w ∧ (xj 5 (ci .u8) 1 M7 M6 M8 M9) ∧ (zU.l1 K Nc M5 M6).wp kr kp) K ?_ ?_ ?_
 ·exact ⟨Nd, none, 0, ([] : List Int), Nu, hS.to [0] (by kernel_rfl) ⟨rfl, rfl, trivial⟩, Ni, hM⟩
 ·intro a w hI; obtain ⟨_, _, _, _, _, _, _, hM⟩ := hI; exact zu hM
 ·intro Nc a w hI NC Nh
  obtain ⟨M5, M7, M8, M6, M9, hS, Nj, hM⟩ := hI
  rw [zU.l1] at hM
  refine xQ <| qm <| sM hS rfl fun hS => sO hS (uY rfl Tryd.runUnderlying9) rfl fun hS => sO hS (Us rfl rfl) rfl fun hS => zF (v := Value.int .i64) (x0 := (if (M5.length : Int) < (65535 : Int) then (M5.length : Int) else (65535 : Int))) hS (xA rfl) rfl fun M3 a w hz hS => ?_
  have hM := qz hz hM; clear hz
  refine qA <| qm <| sA hS rfl fun hS => qA <| zl (fun a w => ∃ (M4 : Int), Ss 41 [] [(0, xf M5), (3, .slice M7 M6.length M8), (4, .int .i64 M3), (5, .int .u8 M4)] H [M9] F a w ∧ (zU.j2 K (zU.l1 K Nc) M5 M6 M3 M4).wp kr kp) (fun NB Na => ?_) ?_
  ·refine wp_seq ?_
   refine zM <| sM hS rfl fun hS => sM hS rfl fun hS => sO hS (uY rfl Tryd.runUnderlying9) rfl fun hS => sB hS rfl fun hS => qA <| qF hS rfl hM (fun Nm hM => ?_) (fun Nm hM => ?_)
   ·refine zM ?_
    refine sA hS rfl fun hS => zo <| qe ?_
    exact Na _ _ ⟨(1 : Int), hS.to [0] (by kernel_rfl) ⟨rfl, rfl, rfl, rfl, trivial⟩, hM⟩
   ·refine wp_skip ?_
    refine qe ?_
    exact Na _ _ ⟨(0 : Int), hS.to [0] (by kernel_rfl) ⟨rfl, rfl, rfl, rfl, trivial⟩, hM⟩
  ·intro a w hI
   obtain ⟨M4, hS, hM⟩ := hI
   rw [zU.j2] at hM
   refine qm <| sM hS rfl fun hS => sM hS rfl fun hS => sM hS rfl fun hS => sO hS (ux rfl Tryd.runUnderlying3 Tryd.runUnderlying5) rfl fun hS => sM hS rfl fun hS => sO hS (shr rfl rfl rfl) rfl fun hS => sO hS (ux rfl Tryd.runUnderlying3 Tryd.runUnderlying5) rfl fun hS => sM hS rfl fun hS => sO hS (ux rfl Tryd.runUnderlying3 Tryd.runUnderlying5) rfl fun hS => sO hS (un rfl rfl) rfl fun hS => sM hS rfl fun hS => sO hS (shr rfl rfl rfl) rfl fun hS => sO hS (ux rfl Tryd.runUnderlying3 Tryd.runUnderlying5) rfl fun hS => sO hS (un rfl rfl) rfl fun hS => Jv (g := (ci .u8)) ([M4, (wr .u8 M3), (wr .u8 (xb .i64 M3 (8 : Int))), (QR .u8 (wr .u8 M3)), (QR .u8 (wr .u8 (xb .i64 M3 (8 : Int))))] : List Int) [.int .u8 M4, .int .u8 (wr .u8 M3), .int .u8 (wr .u8 (xb .i64 M3 (8 : Int))), .int .u8 (QR .u8 (wr .u8 M3)), .int .u8 (QR .u8 (wr .u8 (xb .i64 M3 (8 : Int))))] hS Tryd.runUnderlying32 Tryd.sizeOf5 X.el5 rfl rfl rfl (by simp [Value.cells]) rfl rfl rfl rfl rfl fun w Nz ND NF Nk hS => ?_
   obtain ⟨No, hM⟩ := qK hM
   refine J5 (ys := ([M4, (wr .u8 M3), (wr .u8 (xb .i64 M3 (8 : Int))), (QR .u8 (wr .u8 M3)), (QR .u8 (wr .u8 (xb .i64 M3 (8 : Int))))] : List Int)) 1 hS rfl rfl Nj rfl (Nk.rd (i := 0) rfl) Tryd.runUnderlying32 Tryd.runUnderlying32 X.el5 (fun _ => rfl) rfl u4 No rfl fun Ny w NA NE NG hz Nl hS => ?_
   have hM := qz hz hM; clear hz
   refine sA hS rfl fun hS => qA <| qm <| sM hS rfl fun hS => sM hS rfl fun hS => sM hS rfl fun hS => ?_
   obtain ⟨Np, hM⟩ := qK hM
   refine sO hS (Lp rfl Tryd.runUnderlying9 Lu (DR rfl) Np) rfl fun hS => ?_
   obtain ⟨Nq, hM⟩ := qK hM
   refine Mv 1 hS rfl rfl Nl rfl Tryd.runUnderlying32 Tryd.runUnderlying9 X.el5 rfl Nq rfl fun Nf w Ns Nt Nv hz Nb hS => ?_
   have hM := qz hz hM; clear hz
   refine sA hS rfl fun hS => qA <| qm <| sM hS rfl fun hS => sM hS rfl fun hS => ?_
   obtain ⟨Nr, hM⟩ := qK hM
   refine sO hS (Lp rfl Tryd.runUnderlying9 (Lb rfl) G5 Nr) rfl fun hS => zF (v := xf) (x0 := (sub M5 M3 (M5.length : Int))) hS (xA rfl) rfl fun Nw a w hz hS => ?_
   have hM := qz hz hM; clear hz
   refine qA <| qm <| sM hS rfl fun hS => sB hS rfl fun hS => qA <| qF hS rfl hM (fun Nn hM => ?_) (fun Nn hM => ?_)
   ·refine wp_seq ?_
    refine zM <| sM hS rfl fun hS => sO hS (GV rfl Tryd.runUnderlying32 Tryd.runUnderlying5 Tryd.runUnderlying9 (Nb.rd (i := 1) rfl)) rfl fun hS => zF (v := xf) (x0 := (Nf.map v8)) hS (xA rfl) rfl fun Nx a w hz hS => ?_
    have hM := qz hz hM; clear hz
    refine qA <| wp_ret <| x6 (zk (x6 ?_))
    exact zE (rs := [2]) hS rfl rfl (hret Nx _ (q8 hM) (hS.st.pick [] (by kernel_rfl)))
   ·refine wp_skip ?_
    refine zx (qe ?_)
    exact Nh _ _ ⟨Nw, Ns, Nt, Nf, Nv, hS.to [1] (by kernel_rfl) ⟨rfl, rfl, trivial⟩, Nb, hM⟩
theorem JO {H : xT} {F : List qk} {w : World} {R : Ending → World → Prop} {kr : Bool → Prop} {kp : Value → Prop} (hG : Gl H) (K : Nat) (M3 : qM)
    (hS : St w H [] F) (hm : (vW.m K M3).wp kr kp)
    (hret : ∀ (M5 : Bool) (w : World), kr M5 → St w H [] F → R (.returned (.bool M5)) w) :
    Calls Tryd.prog 66 ⟨[.agg ⟨[.int .u8 M3.Lit_, .int .i64 M3.Len_, .int .i64 M3.Dist_]⟩]⟩ w R := by
 refine enter Tryd.func66 rfl Tryd.ntmps66 rfl hS fun a w hS => ?_
 have hM := hm; clear hm
 rw [vW.m] at hM
 refine qm <| bx ([.int .u8 M3.Lit_, .int .i64 M3.Len_, .int .i64 M3.Dist_]) hS rfl rfl rfl fun w M9 Na M4 hS => sA hS rfl fun hS => qA <| wp_seq <| qm <| sO hS (xw rfl Tryd.runUnderlying57 rfl Tryd.sizeOf3 rfl) rfl fun hS => sO hS (x5 0 rfl M4 rfl rfl Tryd.isAgg3) rfl fun hS => sB hS rfl fun hS => qA <| qF hS rfl hM (fun M6 hM => ?_) (fun M6 hM => ?_)
 ·refine wp_seq ?_
  refine zM <| sO hS (xw rfl Tryd.runUnderlying57 rfl Tryd.sizeOf3 rfl) rfl fun hS => sO hS (x5 0 rfl M4 rfl rfl Tryd.isAgg3) rfl fun hS => sB hS rfl fun hS => zF (v := Value.bool) (x0 := (M3.Len_ == (0 : Int))) hS (xA rfl) rfl fun M7 a w hz hS => ?_
  have hM := qz hz hM; clear hz
  refine qA <| wp_ret <| zk ?_
  exact zE (rs := [2]) hS rfl rfl (hret M7 _ (q8 hM) (hS.st.pick [] (by kernel_rfl)))
 ·refine wp_skip ?_
  refine qe <| qm <| sO hS (xw rfl Tryd.runUnderlying57 rfl Tryd.sizeOf3 rfl) rfl fun hS => sO hS (x5 0 rfl M4 rfl rfl Tryd.isAgg3) rfl fun hS => sB hS rfl fun hS => sM hS rfl fun hS => y4 3 true 12 (b := (decide (M3.Dist_ > (0 : Int)))) (r := (decide (M3.Dist_ ≤ (32768 : Int)))) hS rfl rfl rfl rfl rfl rfl rfl (fun hb a w hS K hK => ?_) rfl fun a w hS => ?_
  ·refine z2 hS rfl rfl rfl hb (xw rfl Tryd.runUnderlying57 rfl Tryd.sizeOf3 rfl) rfl fun a w hS => ?_
   refine z2 hS rfl rfl rfl hb (x5 0 rfl M4 rfl rfl Tryd.isAgg3) rfl fun a w hS => z2 hS rfl rfl rfl hb (jv rfl rfl rfl) rfl fun a w hS => ?_
   exact zo (hK _ _ (hS.up 3 rfl rfl))
  refine sM hS rfl fun hS => y4 3 true 17 (b := ((decide (M3.Dist_ > (0 : Int))) && (decide (M3.Dist_ ≤ (32768 : Int))))) (r := (decide (M3.Len_ ≥ (3 : Int)))) hS rfl rfl rfl rfl rfl rfl rfl (fun hb a w hS K hK => ?_) rfl fun a w hS => ?_
  ·refine z2 hS rfl rfl rfl hb (xw rfl Tryd.runUnderlying57 rfl Tryd.sizeOf3 rfl) rfl fun a w hS => ?_
   refine z2 hS rfl rfl rfl hb (x5 0 rfl M4 rfl rfl Tryd.isAgg3) rfl fun a w hS => z2 hS rfl rfl rfl hb (jv rfl rfl rfl) rfl fun a w hS => ?_
   exact zo (hK _ _ (hS.up 3 rfl rfl))
  refine sM hS rfl fun hS => y4 3 true 22 (b := (((decide (M3.Dist_ > (0 : Int))) && (decide (M3.Dist_ ≤ (32768 : Int)))) && (decide (M3.Len_ ≥ (3 : Int))))) (r := (decide (M3.Len_ ≤ (258 : Int)))) hS rfl rfl rfl rfl rfl rfl rfl (fun hb a w hS K hK => ?_) rfl fun a w hS => ?_
  ·refine z2 hS rfl rfl rfl hb (xw rfl Tryd.runUnderlying57 rfl Tryd.sizeOf3 rfl) rfl fun a w hS => ?_
   refine z2 hS rfl rfl rfl hb (x5 0 rfl M4 rfl rfl Tryd.isAgg3) rfl fun a w hS => z2 hS rfl rfl rfl hb (jv rfl rfl rfl) rfl fun a w hS => ?_
   exact zo (hK _ _ (hS.up 3 rfl rfl))
  refine sM hS rfl fun hS => y4 3 true 27 (b := ((((decide (M3.Dist_ > (0 : Int))) && (decide (M3.Dist_ ≤ (32768 : Int)))) && (decide (M3.Len_ ≥ (3 : Int)))) && (decide (M3.Len_ ≤ (258 : Int))))) (r := (M3.Lit_ == (0 : Int))) hS rfl rfl rfl rfl rfl rfl rfl (fun hb a w hS K hK => ?_) rfl fun a w hS => ?_
  ·refine z2 hS rfl rfl rfl hb (xw rfl Tryd.runUnderlying57 rfl Tryd.sizeOf5 rfl) rfl fun a w hS => ?_
   refine z2 hS rfl rfl rfl hb (x5 0 rfl M4 rfl rfl Tryd.isAgg5) rfl fun a w hS => z2 hS rfl rfl rfl hb (jv rfl rfl rfl) rfl fun a w hS => ?_
   exact zo (hK _ _ (hS.up 3 rfl rfl))
  refine zF (v := Value.bool) (x0 := (((((decide (M3.Dist_ > (0 : Int))) && (decide (M3.Dist_ ≤ (32768 : Int)))) && (decide (M3.Len_ ≥ (3 : Int)))) && (decide (M3.Len_ ≤ (258 : Int)))) && (M3.Lit_ == (0 : Int)))) hS (xA rfl) rfl fun M8 a w hz hS => ?_
  have hM := qz hz hM; clear hz
  refine qA <| wp_ret ?_
  exact zE (rs := [2]) hS rfl rfl (hret M8 _ (q8 hM) (hS.st.pick [] (by kernel_rfl)))
theorem u1 {H : xT} {F : List qk} {w : World} {R : Ending → World → Prop} {kr : Int → Prop} {kp : Value → Prop} (hG : Gl H) (K : Nat) (M6 : Int) (M3 : Int)
    (hS : St w H [] F) (hm : (yd.m K M6 M3).wp kr kp)
    (hret : ∀ (M8 : Int) (w : World), kr M8 → St w H [] F → R (.returned (.int .i64 M8)) w) :
    Calls Tryd.prog 68 ⟨[.int .i64 M6, .int .i64 M3]⟩ w R := by
 refine enter Tryd.func68 rfl Tryd.ntmps68 rfl hS fun a w hS => ?_
 have hM := hm; clear hm
 rw [yd.m] at hM
 refine qm <| sA hS rfl fun hS => qA <| qm <| sA hS rfl fun hS => qA <| wp_seq <| xQ <| zv (fun M7 a w => ∃ (M5 : Int) (M4 : Int), Ss 15 [] [(0, .int .i64 M5), (1, .int .i64 M3), (5, .int .i64 M4)] H [] F a w ∧ (yd.l1 K M3 M7 M5 M4).wp kr kp) K ?_ ?_ ?_
 ·exact ⟨M6, (0 : Int), hS.to [] (by kernel_rfl) ⟨rfl, rfl, rfl, trivial⟩, hM⟩
 ·intro a w hI; obtain ⟨_, _, _, hM⟩ := hI; exact zu hM
 ·intro M7 a w hI Nf M9
  obtain ⟨M5, M4, hS, hM⟩ := hI
  rw [yd.l1] at hM
  refine wp_seq <| qm <| sM hS rfl fun hS => sM hS rfl fun hS => ?_
  obtain ⟨Nb, hM⟩ := qK hM
  refine sO hS (shl rfl rfl Nb) rfl fun hS => sB hS rfl fun hS => qA <| qF hS rfl hM (fun Na hM => ?_) (fun Na hM => ?_)
  ·refine wp_skip ?_
   refine qe <| xQ <| qm <| sM hS rfl fun hS => sO hS (shr rfl rfl rfl) rfl fun hS => zF (v := Value.int .i64) (x0 := (xb .i64 M5 (1 : Int))) hS (xA rfl) rfl fun Nd a w hz hS => ?_
   have hM := qz hz hM; clear hz
   refine qA <| zM <| sM hS rfl fun hS => sB hS rfl fun hS => zF (v := Value.int .i64) (x0 := (qg (M4 + (1 : Int)))) hS (xA rfl) rfl fun Nc a w hz hS => ?_
   have hM := qz hz hM; clear hz
   refine zo <| zx (qe ?_)
   exact M9 _ _ ⟨Nd, Nc, hS.to [] (by kernel_rfl) ⟨rfl, rfl, rfl, trivial⟩, hM⟩
  ·refine wp_exit ?_
   refine qE (qE (zd (qe ?_)))
   refine qm <| sM hS rfl fun hS => sA hS rfl fun hS => qA <| wp_ret ?_
   exact zE (rs := [4]) hS rfl rfl (hret M4 _ (q8 hM) (hS.st.pick [] (by kernel_rfl)))
theorem Q4 {H : xT} {F : List qk} {w : World} {R : Ending → World → Prop} {kr : Int → Prop} {kp : Value → Prop} (hG : Gl H) (K : Nat) (M3 : Int)
    (hS : St w H [] F) (hm : (yR.m K M3).wp kr kp)
    (hret : ∀ (M4 : Int) (w : World), kr M4 → St w H [] F → R (.returned (.int .i64 M4)) w) :
    Calls Tryd.prog 67 ⟨[.int .i64 M3]⟩ w R := by
 refine enter Tryd.func67 rfl Tryd.ntmps67 rfl hS fun a w hS => ?_
 have hM := hm; clear hm
 rw [yR.m] at hM
 refine qm <| sA hS rfl fun hS => qA <| wp_seq <| xQ <| qm <| sM hS rfl fun hS => sB hS rfl fun hS => zF (v := Value.bool) (x0 := (M3 == (258 : Int))) hS (xA rfl) rfl fun Nb a w hz hS => ?_
 have hM := qz hz hM; clear hz
 refine qA <| qF hS rfl hM (fun M5 hM => ?_) (fun M5 hM => ?_)
 ·refine wp_seq ?_
  refine zM <| sA hS rfl fun hS => qA <| wp_ret <| x6 (zk ?_)
  exact zE (rs := [2]) hS rfl rfl (hret (8 : Int) _ (q8 hM) (hS.st.pick [] (by kernel_rfl)))
 ·refine wp_seq ?_
  refine zM <| sM hS rfl fun hS => sB hS rfl fun hS => zF (v := Value.bool) (x0 := (decide (M3 ≥ (115 : Int)))) hS (xA rfl) rfl fun Nc a w hz hS => ?_
  have hM := qz hz hM; clear hz
  refine qA <| qF hS rfl hM (fun M6 hM => ?_) (fun M6 hM => ?_)
  ·refine wp_seq ?_
   refine zM <| sM hS rfl fun hS => sB hS rfl fun hS => qI hS rfl Tryd.call68 (u1 hG K (qg (M3 - (3 : Int))) (2 : Int) (hS.st.part 0 [] (by kernel_rfl)) (qt hM) (fun M9 w hM  hst => qB hS.ev hst.appF rfl fun hS => ?_))
   replace hS : Ss _ _ _ H [] F _ _ := hS
   refine sB hS rfl fun hS => zF (v := Value.int .i64) (x0 := (qg ((8 : Int) + M9))) hS (xA rfl) rfl fun M7 a w hz hS => ?_
   have hM := qz hz hM; clear hz
   refine qA <| wp_ret <| x6 (zk ?_)
   exact zE (rs := [2]) hS rfl rfl (hret M7 _ (q8 hM) (hS.st.pick [] (by kernel_rfl)))
  ·refine wp_skip ?_
   refine zx (qe ?_)
   refine qm <| sM hS rfl fun hS => sB hS rfl fun hS => qI hS rfl Tryd.call68 (u1 hG K (qg (M3 - (3 : Int))) (2 : Int) (hS.st.part 0 [] (by kernel_rfl)) (qt hM) (fun Na w hM  hst => qB hS.ev hst.appF rfl fun hS => ?_))
   replace hS : Ss _ _ _ H [] F _ _ := hS
   refine sB hS rfl fun hS => zF (v := Value.int .i64) (x0 := (qg ((7 : Int) + Na))) hS (xA rfl) rfl fun M8 a w hz hS => ?_
   have hM := qz hz hM; clear hz
   refine qA <| wp_ret ?_
   exact zE (rs := [2]) hS rfl rfl (hret M8 _ (q8 hM) (hS.st.pick [] (by kernel_rfl)))
theorem JM {H : xT} {F : List qk} {w : World} {R : Ending → World → Prop} {kr : (Int × Int) → Prop} {kp : Value → Prop} (hG : Gl H) (K : Nat) (M3 : List qM) (Nb : Option Addr) (Nc : Nat) (Nh : jU H [] F qM.cells Nb M3) (Nu : M3.length ≤ Nc)
    (hS : St w H [] F) (hm : (x4.m K M3).wp kr kp)
    (hret : ∀ (Nk : Int) (Nl : Int) (w : World), kr (Nk, Nl) → St w H [] F → R (.returned (.tuple ⟨[.int .i64 Nk, .int .i64 Nl]⟩)) w) :
    Calls Tryd.prog 49 ⟨[.slice Nb M3.length Nc]⟩ w R := by
 refine enter Tryd.func49 rfl Tryd.ntmps49 rfl hS fun a w hS => ?_
 have hM := hm; clear hm
 rw [x4.m] at hM
 refine qm <| sA hS rfl fun hS => sA hS rfl fun hS => qA <| qm <| sA hS rfl fun hS => qA <| wp_seq <| qm <| sM hS rfl fun hS => sO hS (yc rfl Tryd.runUnderlying37) rfl fun hS => sM hS rfl fun hS => qA <| xQ <| zv (fun Nj a w => ∃ (M5 : Int) (M4 : Int), Ss 47 [] [(4, .int .i64 M5), (7, .slice Nb M3.length Nc), (8, .int .i64 (M3.length : Int)), (9, .int .i64 M4)] H [] F a w ∧ (x4.l1 K M3 Nj M5 M4).wp kr kp) K ?_ ?_ ?_
 ·exact ⟨(7 : Int), (0 : Int), hS.to [] (by kernel_rfl) ⟨rfl, rfl, rfl, rfl, trivial⟩, hM⟩
 ·intro a w hI; obtain ⟨_, _, _, hM⟩ := hI; exact zu hM
 ·intro Nj a w hI Nv M9
  obtain ⟨M5, M4, hS, hM⟩ := hI
  rw [x4.l1] at hM
  refine qm <| sB hS rfl fun hS => qA <| wp_seq <| qF hS rfl hM (fun Nn hM => ?_) (fun Nn hM => ?_)
  ·refine wp_skip ?_
   refine qe <| wp_seq <| xQ <| wp_seq <| zM ?_
   obtain ⟨Ng, hM⟩ := qK hM
   refine sO hS (yu rfl rfl Tryd.runUnderlying37 Tryd.sizeOf57 Nh.wk (fun _ => rfl) rfl Ng) rfl fun hS => sO hS (uc rfl Nh.wk (fun _ => rfl) Ng Tryd.isAgg57 Tryd.sizeOf57 rfl) rfl fun hS => QI ([.int .u8 (0 : Int), .int .i64 (0 : Int), .int .i64 (0 : Int)]) hS Tryd.zeroValue57 rfl rfl fun w M8 Nw Nm hS => QX 0 ([.int .u8 ((rd M3 M4).Lit_), .int .i64 ((rd M3 M4).Len_), .int .i64 ((rd M3 M4).Dist_)]) ([.int .u8 ((rd M3 M4).Lit_), .int .i64 ((rd M3 M4).Len_), .int .i64 ((rd M3 M4).Dist_)]) hS rfl rfl Nm rfl rfl Tryd.sizeOf57 (by simp [Value.oneCell']) (Nat.le_of_ble_eq_true rfl) rfl fun w Nf M6 hS => qA <| xQ <| qm <| sO hS (uX 0 rfl M6 rfl ([.int .u8 ((rd M3 M4).Lit_), .int .i64 ((rd M3 M4).Len_), .int .i64 ((rd M3 M4).Dist_)]) rfl rfl Tryd.isAgg57 Tryd.sizeOf57) rfl fun hS => qI hS rfl Tryd.call66 (JO hG K (qM.mk ((rd M3 M4).Lit_) ((rd M3 M4).Len_) ((rd M3 M4).Dist_)) (hS.st.part 0 [0] (by kernel_rfl)) (qt hM) (fun Nt w hM  hst => qB hS.ev hst.appF rfl fun hS => ?_))
   replace hS : Ss _ _ _ H [Nf] F _ _ := hS
   refine sO hS (un rfl rfl) rfl fun hS => zF (v := Value.bool) (x0 := (!Nt)) hS (xA rfl) rfl fun Nx a w hz hS => ?_
   have hM := qz hz hM; clear hz
   refine qA <| qF hS rfl hM (fun No hM => ?_) (fun No hM => ?_)
   ·refine wp_seq ?_
    refine zM <| sA hS rfl fun hS => sA hS rfl fun hS => qA <| wp_ret <| x6 (x6 (zk (zk (x6 (zk ?_)))))
    exact zE (rs := [2, 3]) hS rfl rfl (hret (0 : Int) (1 : Int) _ (q8 hM) (hS.st.pick [] (by kernel_rfl)))
   ·refine wp_seq ?_
    refine zM <| sO hS (xw rfl Tryd.runUnderlying57 rfl Tryd.sizeOf3 rfl) rfl fun hS => sO hS (x5 0 rfl M6 rfl rfl Tryd.isAgg3) rfl fun hS => sB hS rfl fun hS => sM hS rfl fun hS => y4 3 true 32 (b := ((rd M3 M4).Dist_ == (0 : Int))) (r := (decide ((rd M3 M4).Lit_ < (144 : Int)))) hS rfl rfl rfl rfl rfl rfl rfl (fun hb a w hS K hK => ?_) rfl fun a w hS => ?_
    ·refine z2 hS rfl rfl rfl hb (xw rfl Tryd.runUnderlying57 rfl Tryd.sizeOf5 rfl) rfl fun a w hS => ?_
     refine z2 hS rfl rfl rfl hb (x5 0 rfl M6 rfl rfl Tryd.isAgg5) rfl fun a w hS => z2 hS rfl rfl rfl hb (jv rfl rfl rfl) rfl fun a w hS => ?_
     exact zo (hK _ _ (hS.up 3 rfl rfl))
    refine zF (v := Value.bool) (x0 := (((rd M3 M4).Dist_ == (0 : Int)) && (decide ((rd M3 M4).Lit_ < (144 : Int))))) hS (xA rfl) rfl fun Ny a w hz hS => ?_
    have hM := qz hz hM; clear hz
    refine qA <| qF hS rfl hM (fun Np hM => ?_) (fun Np hM => ?_)
    ·refine zM ?_
     refine sM hS rfl fun hS => sB hS rfl fun hS => zF (v := Value.int .i64) (x0 := (qg (M5 + (8 : Int)))) hS (xA rfl) rfl fun Nr a w hz hS => ?_
     have hM := qz hz hM; clear hz
     refine zo <| zx (zx (qe ?_))
     refine zM <| sB hS rfl fun hS => sM hS rfl fun hS => zo <| qe ?_
     exact M9 _ _ ⟨Nr, (qg (M4 + (1 : Int))), hS.to [] (by kernel_rfl) ⟨rfl, rfl, rfl, rfl, trivial⟩, hM⟩
    ·refine wp_seq ?_
     refine zM <| sO hS (xw rfl Tryd.runUnderlying57 rfl Tryd.sizeOf3 rfl) rfl fun hS => sO hS (x5 0 rfl M6 rfl rfl Tryd.isAgg3) rfl fun hS => sB hS rfl fun hS => zF (v := Value.bool) (x0 := ((rd M3 M4).Dist_ == (0 : Int))) hS (xA rfl) rfl fun Nz a w hz hS => ?_
     have hM := qz hz hM; clear hz
     refine qA <| qF hS rfl hM (fun Nq hM => ?_) (fun Nq hM => ?_)
     ·refine zM ?_
      refine sM hS rfl fun hS => sB hS rfl fun hS => zF (v := Value.int .i64) (x0 := (qg (M5 + (9 : Int)))) hS (xA rfl) rfl fun Ns a w hz hS => ?_
      have hM := qz hz hM; clear hz
      refine zo <| zx (zx (qe ?_))
      refine zM <| sB hS rfl fun hS => sM hS rfl fun hS => zo <| qe ?_
      exact M9 _ _ ⟨Ns, (qg (M4 + (1 : Int))), hS.to [] (by kernel_rfl) ⟨rfl, rfl, rfl, rfl, trivial⟩, hM⟩
     ·refine q9 (vals := [some (.int .i64 M5), some (qL M8 1), some (.int .i64 ((rd M3 M4).Len_)), none, none, some (qL M8 2), some (.int .i64 ((rd M3 M4).Dist_)), some (.int .i64 (qg ((rd M3 M4).Dist_ - (1 : Int)))), none, none, none, none]) hS xF rfl ?_
      intro l w ho hcl hA hst
      refine jf hA hst ho hcl xu xG 3 [0, 1, 2, 5, 6, 7] rfl rfl rfl rfl rfl (by exact ⟨nM rfl, nQ rfl (by exact qX (xw rfl Tryd.runUnderlying57 rfl Tryd.sizeOf3 rfl) rfl), nQ rfl (by exact qX (x5 0 rfl M6 rfl rfl Tryd.isAgg3) rfl), nQ rfl (by exact qX (xw rfl Tryd.runUnderlying57 rfl Tryd.sizeOf3 rfl) rfl), nQ rfl (by exact qX (x5 0 rfl M6 rfl rfl Tryd.isAgg3) rfl), nB rfl, trivial⟩) fun D l a w ho hcl hav hpre hm hE hk hA hst => ?_
      have hS := (Ss.mk hE hst).env2 (e' := [(15, .int .i64 ((rd M3 M4).Len_))]) ⟨rfl, trivial⟩
      refine qR rfl <| qI hS rfl Tryd.call67 (Q4 hG K ((rd M3 M4).Len_) (hS.st.part 0 [0] (by kernel_rfl)) (qt hM) (fun M7 w hM  hst => qB hS.ev hst.appF rfl fun hS => ?_))
      replace hS : Ss _ _ _ H [Nf] F _ _ := hS
      refine qA ?_
      replace hst := hS.st
      obtain ⟨hcl, hmust, hav2, hA⟩ := dn (vals' := [some (.int .i64 M5), some (qL M8 1), some (.int .i64 ((rd M3 M4).Len_)), some (.int .i64 M7), some (.int .i64 (qg (M7 + (5 : Int)))), some (qL M8 2), some (.int .i64 ((rd M3 M4).Dist_)), some (.int .i64 (qg ((rd M3 M4).Dist_ - (1 : Int)))), none, none, none, none]) 3 [(2, 3), (1, 2)] hA hcl hav hm hpre hk rfl rfl rfl rfl rfl rfl rfl
      clear hm hav
      refine jf hA hst ho hcl hav2 hmust 8 [0, 4, 5, 6, 7] rfl rfl rfl rfl rfl (by exact ⟨nM rfl, nB rfl, nQ rfl (by exact qX (xw rfl Tryd.runUnderlying57 rfl Tryd.sizeOf3 rfl) rfl), nQ rfl (by exact qX (x5 0 rfl M6 rfl rfl Tryd.isAgg3) rfl), nB rfl, trivial⟩) fun D l a w ho hcl hav hpre hm hE hk hA hst => ?_
      have hS := (Ss.mk hE hst).env2 (e' := [(20, .int .i64 (qg ((rd M3 M4).Dist_ - (1 : Int))))]) ⟨rfl, trivial⟩
      refine qR rfl <| qI hS rfl Tryd.call68 (u1 hG K (qg ((rd M3 M4).Dist_ - (1 : Int))) (1 : Int) (hS.st.part 0 [0] (by kernel_rfl)) (qt hM) (fun Nd w hM  hst => qB hS.ev hst.appF rfl fun hS => ?_))
      replace hS : Ss _ _ _ H [Nf] F _ _ := hS
      refine qA ?_
      replace hst := hS.st
      obtain ⟨Na, Ni⟩ : ∃ x, x = (qg (M5 + (qg ((qg (M7 + (5 : Int))) + Nd)))) := ⟨_, rfl⟩
      replace hM := qz Ni hM
      obtain ⟨hcl, hmust, hav2, hA⟩ := dn (vals' := [some (.int .i64 M5), some (qL M8 1), some (.int .i64 ((rd M3 M4).Len_)), some (.int .i64 M7), some (.int .i64 (qg (M7 + (5 : Int)))), some (qL M8 2), some (.int .i64 ((rd M3 M4).Dist_)), some (.int .i64 (qg ((rd M3 M4).Dist_ - (1 : Int)))), some (.int .i64 Nd), some (.int .i64 (qg ((qg (M7 + (5 : Int))) + Nd))), some (.int .i64 (qg (M5 + (qg ((qg (M7 + (5 : Int))) + Nd))))), some (.int .i64 Na)]) 8 [(3, 8), (7, 8), (2, 3), (6, 7), (1, 2), (5, 6)] hA hcl hav hm hpre hk rfl rfl rfl rfl rfl rfl rfl
      clear hm hav
      refine yk hA hst ho hcl hmust [0, 4, 9, 10, 11] rfl rfl rfl (by exact ⟨nM rfl, nB rfl, nB rfl, nB rfl, nQ rfl (by exact qX (xA rfl) (congrArg (Value.int .i64) Ni.symm)), trivial⟩) fun a w hS => ?_
      replace hS := hS.env2 (e' := [(4, .int .i64 Na), (7, .slice Nb M3.length Nc), (8, .int .i64 (M3.length : Int)), (9, .int .i64 M4)]) ⟨rfl, rfl, rfl, rfl, trivial⟩
      refine zx (zx (qe ?_))
      refine zM <| sB hS rfl fun hS => sM hS rfl fun hS => zo <| qe ?_
      exact M9 _ _ ⟨Na, (qg (M4 + (1 : Int))), hS.to [] (by kernel_rfl) ⟨rfl, rfl, rfl, rfl, trivial⟩, hM⟩
  ·refine wp_exit ?_
   refine qE (qE (zd (qe ?_)))
   refine qm <| sM hS rfl fun hS => sA hS rfl fun hS => sA hS rfl fun hS => qA <| wp_ret ?_
   exact zE (rs := [2, 3]) hS rfl rfl (hret M5 (0 : Int) _ (q8 hM) (hS.st.pick [] (by kernel_rfl)))
theorem Ql {H : xT} {F : List qk} {w : World} {R : Ending → World → Prop} {kr : Bool → Prop} {kp : Value → Prop} (hG : Gl H) (K : Nat) (M3 : List qM) (M4 : Option Addr) (M5 : Nat) (M8 : jU H [] F qM.cells M4 M3) (M7 : M3.length ≤ M5)
    (hS : St w H [] F) (hm : (jo.m K M3).wp kr kp)
    (hret : ∀ (M6 : Bool) (w : World), kr M6 → St w H [] F → R (.returned (.bool M6)) w) :
    Calls Tryd.prog 28 ⟨[.slice M4 M3.length M5]⟩ w R := by
 refine enter Tryd.func28 rfl Tryd.ntmps28 rfl hS fun a w hS => ?_
 have hM := hm; clear hm
 rw [jo.m] at hM
 refine qm <| sA hS rfl fun hS => qA <| qm <| sM hS rfl fun hS => qI hS rfl Tryd.call49 (JM hG K M3 M4 M5 (M8.app _) M7 (hS.st.part 0 [] (by kernel_rfl)) (qt hM) (fun Nb Na w hM  hst => qB hS.ev hst.appF rfl fun hS => ?_))
 replace hS : Ss _ _ _ H [] F _ _ := hS
 refine sM hS rfl fun hS => sO hS (ex rfl rfl) rfl fun hS => sO hS (ex rfl rfl) rfl fun hS => sA hS rfl fun hS => sA hS rfl fun hS => qA <| qm <| sM hS rfl fun hS => sB hS rfl fun hS => zF (v := Value.bool) (x0 := (Na == (0 : Int))) hS (xA rfl) rfl fun M9 a w hz hS => ?_
 have hM := qz hz hM; clear hz
 refine qA <| wp_ret ?_
 exact zE (rs := [2]) hS rfl rfl (hret M9 _ (q8 hM) (hS.st.pick [] (by kernel_rfl)))
theorem Qh {H : xT} {F : List qk} {w : World} {R : Ending → World → Prop} {kr : (List Int) → Prop} {kp : Value → Prop} (hG : Gl H) (K : Nat) (M5 : List Int) (Nu : M5.length = 16)
    (hS : St w H [] F) (hm : (zJ.m K M5).wp kr kp)
    (hret : ∀ (Nm : (List Int)) (w : World), kr Nm → (Nm.length = 16) → St w H [] F → R (.returned (.agg ⟨Nm.flatMap (ci .i64)⟩)) w) :
    Calls Tryd.prog 71 ⟨[.agg ⟨M5.flatMap (ci .i64)⟩]⟩ w R := by
 refine enter Tryd.func71 rfl Tryd.ntmps71 rfl hS fun a w hS => ?_
 have hM := hm; clear hm
 rw [zJ.m] at hM
 refine qm <| bx (M5.flatMap (ci .i64)) hS rfl rfl rfl fun w Nx Ny Np hS => QI ((List.replicate 16 (0 : Int)).flatMap (ci .i64)) hS Tryd.zeroValue127 rfl rfl fun w M9 Nz Nq hS => qA <| qm <| sA hS rfl fun hS => qA <| zl (fun a w => ∃ (M3 : (List Int)) (Nh : qk), Ss 20 [] [(2, qL M9 0)] H [Nh] F a w ∧ (M3.length = 16) ∧ (xM Nh M9 (M3.flatMap (ci .i64)) 127) ∧ (zJ.j2 K M3).wp kr kp) (fun NC Ns => ?_) ?_
 ·refine wp_seq ?_
  refine zM <| sA hS rfl fun hS => qA <| xQ <| zv (fun No a w => ∃ (M4 : (List Int)) (Ng : qk) (M6 : Int) (M8 : Int), Ss 20 [] [(1, qL Nx 0), (2, qL M9 0), (3, .int .i64 M6), (4, .int .i64 M8)] H [Ny, Ng] F a w ∧ (M4.length = 16) ∧ (xM Ng M9 (M4.flatMap (ci .i64)) 127) ∧ (zJ.l1 K M5 No M4 M6 M8).wp kr kp) K ?_ ?_ ?_
  ·exact ⟨(List.replicate 16 (0 : Int)), Nz, (0 : Int), (1 : Int), hS.to [1, 0] (by kernel_rfl) ⟨rfl, rfl, rfl, rfl, trivial⟩, (List.length_replicate ..), Nq, hM⟩
  ·intro a w hI; obtain ⟨_, _, _, _, _, _, _, hM⟩ := hI; exact zu hM
  ·intro No a w hI NB Nr
   obtain ⟨M4, Ng, M6, M8, hS, Nd, Ni, hM⟩ := hI
   rw [zJ.l1] at hM
   refine wp_seq <| qm <| sM hS rfl fun hS => sB hS rfl fun hS => qA <| qF hS rfl hM (fun Nt hM => ?_) (fun Nt hM => ?_)
   ·refine wp_skip ?_
    refine qe <| wp_seq <| xQ <| qm <| sM hS rfl fun hS => sM hS rfl fun hS => sB hS rfl fun hS => ?_
    obtain ⟨Nk, hM⟩ := qK hM
    refine sO hS (Ub rfl rfl Tryd.runUnderlying127 Tryd.sizeOf3 Nk) rfl fun hS => sO hS (LO (xs := M5) (g := (ci .i64)) (pre := []) (post := []) 0 rfl Np rfl (by simp) rfl (fun _ => rfl) (jc Nu Nk) rfl Tryd.isAgg3) rfl fun hS => sB hS rfl fun hS => sO hS (shl rfl rfl rfl) rfl fun hS => zF (v := Value.int .i64) (x0 := (z8 .i64 (qg (M6 + (rd M5 (qg (M8 - (1 : Int)))))) (1 : Int))) hS (xA rfl) rfl fun Na a w hz hS => ?_
    have hM := qz hz hM; clear hz
    refine qA <| zM <| sM hS rfl fun hS => sM hS rfl fun hS => ?_
    obtain ⟨Nl, hM⟩ := qK hM
    refine sO hS (Ub rfl rfl Tryd.runUnderlying127 Tryd.sizeOf3 Nl) rfl fun hS => Gx (xs := M4) (g := (ci .i64)) (pre := []) (post := []) 1 (Na) hS rfl rfl Ni rfl (by simp) rfl (fun _ => rfl) (jc Nd Nl) rfl Tryd.sizeOf3 (xJ _) fun Nf w Nn hz Nb hS => ?_
    have Nv : Nf.length = 16 := by rw [hz, List.length_set]; exact Nd
    have hM := qz hz hM; clear hz
    replace Nb : xM Nn M9 (Nf.flatMap (ci .i64)) 127 := by simpa using Nb
    refine zo <| zx (qe ?_)
    refine zM <| sM hS rfl fun hS => sB hS rfl fun hS => zF (v := Value.int .i64) (x0 := (qg (M8 + (1 : Int)))) hS (xA rfl) rfl fun Nw a w hz hS => ?_
    have hM := qz hz hM; clear hz
    refine zo <| qe ?_
    exact Nr _ _ ⟨Nf, Nn, Na, Nw, hS.to [0, 1] (by kernel_rfl) ⟨rfl, rfl, rfl, rfl, trivial⟩, Nv, Nb, hM⟩
   ·refine wp_exit ?_
    refine qE (qE (zd (qe ?_)))
    exact Ns _ _ ⟨M4, Ng, hS.to [1] (by kernel_rfl) ⟨rfl, trivial⟩, Nd, Ni, hM⟩
 ·intro a w hI
  obtain ⟨M3, Nh, hS, M7, Nj, hM⟩ := hI
  rw [zJ.j2] at hM
  refine qm <| sO hS (YJ (xs := M3) (g := (ci .i64)) (pre := []) (post := []) 0 rfl Nj rfl (by simp) rfl (xg (g := (ci .i64)) (sz := 1) (fun _ => rfl) M7) Tryd.isAgg127 Tryd.sizeOf127) rfl fun hS => YK (xs := M3) (ys := M3) (g := (ci .i64)) (pre := []) (post := []) 0 hS rfl rfl Nj rfl (by simp) rfl (xg (g := (ci .i64)) (sz := 1) (fun _ => rfl) M7) (xg (g := (ci .i64)) (sz := 1) (fun _ => rfl) M7) (xJ) Tryd.sizeOf127 fun w NA Nc hS => ?_
  replace Nc : xM NA M9 (M3.flatMap (ci .i64)) 127 := by simpa using Nc
  refine qA <| wp_ret ?_
  exact jl (vs := [.agg ⟨M3.flatMap (ci .i64)⟩]) hS rfl (by exact ⟨LY 0 rfl Nc rfl (xg (g := (ci .i64)) (sz := 1) (fun _ => rfl) M7) Tryd.isAgg127 Tryd.sizeOf127, trivial⟩) (hret M3 _ (q8 hM) M7 (hS.st.pick [] (by kernel_rfl)))
theorem JE {H : xT} {F : List qk} {w : World} {R : Ending → World → Prop} {kr : ((List Int) × Int) → Prop} {kp : Value → Prop} (hG : Gl H) (K : Nat) (M3 : List Int) (Nf : Option Addr) (Ng : Nat) (Nd : jU H [] F (ci .i64) Nf M3) (Nu : M3.length ≤ Ng)
    (hS : St w H [] F) (hm : (x9.m K M3).wp kr kp)
    (hret : ∀ (NA : Option Addr) (NB : Nat) (Nz : (List Int)) (NF : qk) (NI : Int) (w : World), kr (Nz, NI) → (xj 3 (ci .i64) 1 NA Nz NB NF) → St w H [NF] F → R (.returned (.tuple ⟨[.slice NA Nz.length NB, .int .i64 NI]⟩)) w) :
    Calls Tryd.prog 52 ⟨[.slice Nf M3.length Ng]⟩ w R := by
 refine enter Tryd.func52 rfl Tryd.ntmps52 rfl hS fun a w hS => ?_
 have hM := hm; clear hm
 rw [x9.m] at hM
 refine qm <| sA hS rfl fun hS => ?_
 obtain ⟨Nr, NZ, hS⟩ := hS.nilV 3 (ci .i64) 1
 refine sA hS rfl fun hS => qA <| wp_seq <| qm <| sM hS rfl fun hS => qI hS rfl Tryd.call69 (Zo hG K M3 Nf Ng (Nd.app _) Nu (hS.st.part 0 [0] (by kernel_rfl)) (qt hM) (fun NY w hM  hst => qB hS.ev hst.appF rfl fun hS => ?_))
 replace hS : Ss _ _ _ H [Nr] F _ _ := hS
 refine sA hS rfl fun hS => qA <| qm <| sM hS rfl fun hS => sB hS rfl fun hS => qA <| qF hS rfl hM (fun NO hM => ?_) (fun NO hM => ?_)
 ·refine wp_seq ?_
  refine zM <| sM hS rfl fun hS => sA hS rfl fun hS => ?_
  obtain ⟨NV, NL, hS⟩ := hS.nilV 3 (ci .i64) 1
  refine sA hS rfl fun hS => qA <| wp_ret <| zk ?_
  exact zE (rs := [2, 3]) hS rfl rfl (hret none (0) ([] : List Int) NV NY _ (q8 hM) NL (hS.st.pick [0] (by kernel_rfl)))
 ·refine wp_skip ?_
  refine qe <| qm <| sM hS rfl fun hS => qI hS rfl Tryd.call70 (uU hG K M3 Nf Ng (Nd.app _) Nu (hS.st.part 0 [0] (by kernel_rfl)) (qt hM) (fun Nq N3 w hM Ns hst => qB hS.ev hst.appF rfl fun hS => ?_))
  replace hS : Ss _ _ _ H [Nr] F _ _ := hS
  refine sM hS rfl fun hS => sO hS (ex rfl rfl) rfl fun hS => sO hS (ex rfl rfl) rfl fun hS => QI ((List.replicate 16 (0 : Int)).flatMap (ci .i64)) hS Tryd.zeroValue127 rfl rfl fun w NU N1 NJ hS => YK (xs := (List.replicate 16 (0 : Int))) (ys := Nq) (g := (ci .i64)) (pre := []) (post := []) 0 hS rfl rfl NJ rfl (by simp) rfl (xg (g := (ci .i64)) (sz := 1) (fun _ => rfl) (List.length_replicate ..)) (xg (g := (ci .i64)) (sz := 1) (fun _ => rfl) Ns) (xJ) Tryd.sizeOf127 fun w NC Ni hS => ?_
  replace Ni : xM NC NU (Nq.flatMap (ci .i64)) 127 := by simpa using Ni
  refine sA hS rfl fun hS => qA <| qm <| sO hS (YJ (xs := Nq) (g := (ci .i64)) (pre := []) (post := []) 0 rfl Ni rfl (by simp) rfl (xg (g := (ci .i64)) (sz := 1) (fun _ => rfl) Ns) Tryd.isAgg127 Tryd.sizeOf127) rfl fun hS => qI hS rfl Tryd.call71 (Qh hG K Nq Ns (hS.st.part 0 [0, 1] (by kernel_rfl)) (qt hM) (fun Ny w hM NG hst => qB hS.ev hst.appF rfl fun hS => ?_))
  replace hS : Ss _ _ _ H [NC, Nr] F _ _ := hS
  refine QI ((List.replicate 16 (0 : Int)).flatMap (ci .i64)) hS Tryd.zeroValue127 rfl rfl fun w No N2 NK hS => YK (xs := (List.replicate 16 (0 : Int))) (ys := Ny) (g := (ci .i64)) (pre := []) (post := []) 0 hS rfl rfl NK rfl (by simp) rfl (xg (g := (ci .i64)) (sz := 1) (fun _ => rfl) (List.length_replicate ..)) (xg (g := (ci .i64)) (sz := 1) (fun _ => rfl) NG) (xJ) Tryd.sizeOf127 fun w ND Nj hS => ?_
  replace Nj : xM ND No (Ny.flatMap (ci .i64)) 127 := by simpa using Nj
  refine qA <| qm <| sM hS rfl fun hS => sO hS (yc rfl Tryd.runUnderlying66) rfl fun hS => ?_
  obtain ⟨NR, hM⟩ := qK hM
  refine DD (g := (ci .i64)) (m := (M3.length : Int)) (0 : Int) hS rfl rfl (by simp) Tryd.runUnderlying66 X.el3 (fun w => ⟨_, Tryd.zeroValue3 w, rfl⟩) (fun _ => rfl) rfl rfl NR rfl fun NT w M7 M8 NW hz NM hS => ?_
  have hM := qz hz hM; clear hz
  refine sA hS rfl fun hS => qA <| wp_seq <| qm <| sM hS rfl fun hS => sO hS (yc rfl Tryd.runUnderlying66) rfl fun hS => sM hS rfl fun hS => qA <| xQ <| zv (fun NH a w => ∃ (M4 : (List Int)) (Np : qk) (M5 : (List Int)) (Nh : qk) (Na : Int), Ss 48 [] [(7, qL No 0), (8, .slice M7 M5.length M8), (26, .slice Nf M3.length Ng), (27, .int .i64 (M3.length : Int)), (28, .int .i64 Na)] H [Np, Nh] F a w ∧ (M4.length = 16) ∧ (xM Np No (M4.flatMap (ci .i64)) 127) ∧ (xj 3 (ci .i64) 1 M7 M5 M8 Nh) ∧ (x9.l1 K M3 NH M4 M5 Na).wp kr kp) K ?_ ?_ ?_
  ·exact ⟨Ny, ND, NT, NW, (0 : Int), hS.to [1, 0] (by kernel_rfl) ⟨rfl, rfl, rfl, rfl, rfl, trivial⟩, NG, Nj, NM, hM⟩
  ·intro a w hI; obtain ⟨_, _, _, _, _, _, _, _, _, hM⟩ := hI; exact zu hM
  ·intro NH a w hI N0 Nt
   obtain ⟨M4, Np, M5, Nh, Na, hS, M9, Nb, Nc, hM⟩ := hI
   rw [x9.l1] at hM
   refine qm <| sB hS rfl fun hS => qA <| wp_seq <| qF hS rfl hM (fun NP hM => ?_) (fun NP hM => ?_)
   ·refine wp_skip ?_
    refine qe <| wp_seq <| xQ <| qm <| sM hS rfl fun hS => ?_
    obtain ⟨Nv, hM⟩ := qK hM
    refine sO hS (yu rfl rfl Tryd.runUnderlying66 Tryd.sizeOf3 Nd.wk (fun _ => rfl) rfl Nv) rfl fun hS => sO hS (yG rfl Nd.wk (fun _ => rfl) Nv rfl Tryd.isAgg3) rfl fun hS => sA hS rfl fun hS => zF (v := Value.int .i64) (x0 := (rd M3 Na)) hS (xA rfl) rfl fun Nl a w hz hS => ?_
    have hM := qz hz hM; clear hz
    refine qA <| qm <| sM hS rfl fun hS => sB hS rfl fun hS => qA <| qF hS rfl hM (fun NQ hM => ?_) (fun NQ hM => ?_)
    ·refine wp_seq ?_
     refine zM <| sM hS rfl fun hS => sM hS rfl fun hS => sM hS rfl fun hS => ?_
     obtain ⟨M6, hM⟩ := qK hM
     refine sO hS (Ub rfl rfl Tryd.runUnderlying127 Tryd.sizeOf3 M6) rfl fun hS => sO hS (LO (xs := M4) (g := (ci .i64)) (pre := []) (post := []) 0 rfl Nb rfl (by simp) rfl (fun _ => rfl) (jc M9 M6) rfl Tryd.isAgg3) rfl fun hS => ?_
     obtain ⟨Nw, hM⟩ := qK hM
     refine sO hS (yu rfl rfl Tryd.runUnderlying66 Tryd.sizeOf3 (Nc.rd (i := 1) rfl) (fun _ => rfl) rfl Nw) rfl fun hS => J1 (i := Na) (sz := 1) 1 0 ((rd M4 Nl)) hS rfl rfl Nc rfl Tryd.sizeOf3 (xJ (rd M4 Nl)) (fun _ => rfl) Nw rfl rfl fun Nm w NX hz Nx NN hS => ?_
     have hM := qz hz hM; clear hz
     replace hS := hS.re 8 (u := .slice M7 M5.length M8) (v := .slice M7 Nm.length M8) rfl (by rw [Nx])
     replace hS := hS.re 35 (u := .slice M7 M5.length M8) (v := .slice M7 Nm.length M8) rfl (by rw [Nx])
     refine qA <| zM <| sM hS rfl fun hS => sO hS (Ub rfl rfl Tryd.runUnderlying127 Tryd.sizeOf3 M6) rfl fun hS => sO hS (LO (xs := M4) (g := (ci .i64)) (pre := []) (post := []) 0 rfl Nb rfl (by simp) rfl (fun _ => rfl) (jc M9 M6) rfl Tryd.isAgg3) rfl fun hS => sB hS rfl fun hS => sO hS (Ub rfl rfl Tryd.runUnderlying127 Tryd.sizeOf3 M6) rfl fun hS => Gx (xs := M4) (g := (ci .i64)) (pre := []) (post := []) 0 ((qg ((rd M4 Nl) + (1 : Int)))) hS rfl rfl Nb rfl (by simp) rfl (fun _ => rfl) (jc M9 M6) rfl Tryd.sizeOf3 (xJ _) fun Nn w NE hz Nk hS => ?_
     have NS : Nn.length = 16 := by rw [hz, List.length_set]; exact M9
     have hM := qz hz hM; clear hz
     replace Nk : xM NE No (Nn.flatMap (ci .i64)) 127 := by simpa using Nk
     refine zo <| zx (qe ?_)
     refine zM <| sB hS rfl fun hS => sM hS rfl fun hS => zo <| qe ?_
     exact Nt _ _ ⟨Nn, NE, Nm, NX, (qg (Na + (1 : Int))), hS.to [0, 1] (by kernel_rfl) ⟨rfl, rfl, rfl, rfl, rfl, trivial⟩, NS, Nk, NN, hM⟩
    ·refine wp_skip ?_
     refine zx (qe ?_)
     refine zM <| sB hS rfl fun hS => sM hS rfl fun hS => zo <| qe ?_
     exact Nt _ _ ⟨M4, Np, M5, Nh, (qg (Na + (1 : Int))), hS.to [0, 1] (by kernel_rfl) ⟨rfl, rfl, rfl, rfl, rfl, trivial⟩, M9, Nb, Nc, hM⟩
   ·refine wp_exit ?_
    refine qE (qE (zd (qe ?_)))
    refine qm <| sM hS rfl fun hS => sA hS rfl fun hS => sA hS rfl fun hS => qA <| wp_ret ?_
    exact zE (rs := [2, 3]) hS rfl rfl (hret M7 M8 M5 Nh (0 : Int) _ (q8 hM) Nc (hS.st.pick [1] (by kernel_rfl)))
theorem y7 {H : xT} {F : List qk} {w : World} {R : Ending → World → Prop} {kr : (List Int) → Prop} {kp : Value → Prop} (hG : Gl H) (K : Nat) (M3 : List Int) (M4 : Option Addr) (M5 : Nat) (Ni : jU H [] F (ci .i64) M4 M3) (Nh : M3.length ≤ M5)
    (hS : St w H [] F) (hm : (yg.m K M3).wp kr kp)
    (hret : ∀ (Na : Option Addr) (Nb : Nat) (M6 : (List Int)) (Nd : qk) (w : World), kr M6 → (xj 3 (ci .i64) 1 Na M6 Nb Nd) → St w H [Nd] F → R (.returned (.agg ⟨[.slice M4 M3.length M5, .slice Na M6.length Nb]⟩)) w) :
    Calls Tryd.prog 35 ⟨[.slice M4 M3.length M5]⟩ w R := by
 refine enter Tryd.func35 rfl Tryd.ntmps35 rfl hS fun a w hS => ?_
 have hM := hm; clear hm
 rw [yg.m] at hM
 refine qm <| QI ([.slice none 0 0, .slice none 0 0]) hS Tryd.zeroValue68 rfl rfl fun w Np Nj Nf hS => ?_
 obtain ⟨Nk, Nn, hS⟩ := hS.nilV 3 (ci .i64) 1
 obtain ⟨Nl, No, hS⟩ := hS.nilV 3 (ci .i64) 1
 refine qA <| qm <| sM hS rfl fun hS => qI hS rfl Tryd.call52 (JE hG K M3 M4 M5 (Ni.app _) Nh (hS.st.part 0 [0, 1, 2] (by kernel_rfl)) (qt hM) (fun M7 M8 M9 Nc Nr w hM Nm hst => qB hS.ev hst.appF rfl fun hS => ?_))
 replace hS : Ss _ _ _ H [Nc, Nl, Nk, Nj] F _ _ := hS
 refine sM hS rfl fun hS => sO hS (ex rfl rfl) rfl fun hS => sO hS (ex rfl rfl) rfl fun hS => sA hS rfl fun hS => sA hS rfl fun hS => qA <| qm <| sM hS rfl fun hS => sM hS rfl fun hS => sO hS (Xw ([.slice M4 M3.length M5, .slice M7 M9.length M8]) [(0, 1), (1, 1)] Tryd.zeroValue68 Tryd.runUnderlying68 (by intro w; simp [Tryd.sizeOf66]) rfl rfl) rfl fun hS => QX 3 ([.slice M4 M3.length M5, .slice M7 M9.length M8]) ([.slice M4 M3.length M5, .slice M7 M9.length M8]) hS rfl rfl Nf rfl rfl Tryd.sizeOf68 (by simp [Value.oneCell']) (Nat.le_of_ble_eq_true rfl) rfl fun w Nq Ng hS => qA <| wp_ret ?_
 exact jl (vs := [.agg ⟨[.slice M4 M3.length M5, .slice M7 M9.length M8]⟩]) hS rfl (by exact ⟨Kl 3 ([.slice M4 M3.length M5, .slice M7 M9.length M8]) rfl Ng rfl rfl rfl Tryd.isAgg68 Tryd.sizeOf68, trivial⟩) (hret M7 M8 M9 Nc _ (q8 hM) Nm (hS.st.pick [0] (by kernel_rfl)))
theorem Qm {H : xT} {F : List qk} {w : World} {R : Ending → World → Prop} {kr : ((List Int) × (List Int) × (List Int) × (List Int)) → Prop} {kp : Value → Prop} (hG : Gl H) (K : Nat)
    (hS : St w H [] F) (hm : (q7.m K).wp kr kp)
    (hret : ∀ (NU : Option Addr) (NY : Nat) (Nc : (List Int)) (N3 : qk) (NV : Option Addr) (NZ : Nat) (Nh : (List Int)) (N4 : qk) (NW : Option Addr) (N0 : Nat) (Nd : (List Int)) (N5 : qk) (NX : Option Addr) (N1 : Nat) (Ni : (List Int)) (N6 : qk) (w : World), kr (Nc, Nh, Nd, Ni) → (xj 3 (ci .i64) 1 NU Nc NY N3) → (xj 3 (ci .i64) 1 NV Nh NZ N4) → (xj 3 (ci .i64) 1 NW Nd N0 N5) → (xj 3 (ci .i64) 1 NX Ni N1 N6) → St w H [N3, N4, N5, N6] F → R (.returned (.tuple ⟨[.agg ⟨[.slice NU Nc.length NY, .slice NV Nh.length NZ]⟩, .agg ⟨[.slice NW Nd.length N0, .slice NX Ni.length N1]⟩]⟩)) w) :
    Calls Tryd.prog 29 ⟨[]⟩ w R := by
 refine enter Tryd.func29 rfl Tryd.ntmps29 rfl hS fun a w hS => ?_
 have hM := hm; clear hm
 rw [q7.m] at hM
 refine qm <| QI ([.slice none 0 0, .slice none 0 0]) hS Tryd.zeroValue68 rfl rfl fun w NH Nl N9 hS => ?_
 obtain ⟨Nm, PC, hS⟩ := hS.nilV 3 (ci .i64) 1
 obtain ⟨Nn, PD, hS⟩ := hS.nilV 3 (ci .i64) 1
 refine QI ([.slice none 0 0, .slice none 0 0]) hS Tryd.zeroValue68 rfl rfl fun w NI No Pa hS => ?_
 obtain ⟨Np, PE, hS⟩ := hS.nilV 3 (ci .i64) 1
 obtain ⟨Nq, PF, hS⟩ := hS.nilV 3 (ci .i64) 1
 refine qA <| wp_seq <| zM ?_
 obtain ⟨Pr, hM⟩ := qK hM
 refine DD (g := (ci .i64)) (m := (288 : Int)) (0 : Int) hS rfl rfl (by simp) Tryd.runUnderlying66 X.el3 (fun w => ⟨_, Tryd.zeroValue3 w, rfl⟩) (fun _ => rfl) rfl rfl Pr rfl fun NB w M3 M4 Pt hz Pg hS => ?_
 have hM := qz hz hM; clear hz
 refine sA hS rfl fun hS => qA <| zl (fun a w => ∃ (M5 : (List Int)) (Nj : qk), Ss 46 [] [(0, qL NH 0), (1, qL NI 0), (2, .slice M3 M5.length M4)] H [Nl, Nm, Nn, No, Np, Nq, Nj] F a w ∧ (xj 3 (ci .i64) 1 M3 M5 M4 Nj) ∧ (q7.j2 K M5).wp kr kp) (fun PH Pd => ?_) ?_
 ·refine wp_seq ?_
  refine zM <| sM hS rfl fun hS => sO hS (yc rfl Tryd.runUnderlying66) rfl fun hS => sM hS rfl fun hS => qA <| xQ <| zv (fun N7 a w => ∃ (M6 : (List Int)) (NJ : qk) (M9 : Int), Ss 46 [] [(0, qL NH 0), (1, qL NI 0), (2, .slice M3 M6.length M4), (8, .int .i64 (NB.length : Int)), (9, .int .i64 M9)] H [Nl, Nm, Nn, No, Np, Nq, NJ] F a w ∧ (xj 3 (ci .i64) 1 M3 M6 M4 NJ) ∧ (q7.l1 K NB N7 M6 M9).wp kr kp) K ?_ ?_ ?_
  ·exact ⟨NB, Pt, (0 : Int), hS.to [6, 5, 4, 3, 2, 1, 0] (by kernel_rfl) ⟨rfl, rfl, rfl, rfl, rfl, trivial⟩, Pg, hM⟩
  ·intro a w hI; obtain ⟨_, _, _, _, _, hM⟩ := hI; exact zu hM
  ·intro N7 a w hI PG Nx
   obtain ⟨M6, NJ, M9, hS, Ng, hM⟩ := hI
   rw [q7.l1] at hM
   refine qm <| sB hS rfl fun hS => qA <| wp_seq <| qF hS rfl hM (fun Pn hM => ?_) (fun Pn hM => ?_)
   ·refine wp_skip ?_
    refine qe <| wp_seq <| xQ <| qm <| sM hS rfl fun hS => sA hS rfl fun hS => qA <| xQ <| qm <| sM hS rfl fun hS => sB hS rfl fun hS => sM hS rfl fun hS => y4 2 false 18 (b := (decide (M9 < (144 : Int)))) (r := (decide (M9 ≥ (280 : Int)))) hS rfl rfl rfl rfl rfl rfl rfl (fun hb a w hS K hK => ?_) rfl fun a w hS => ?_
    ·refine z2 hS rfl rfl rfl hb (mv rfl) rfl fun a w hS => ?_
     refine z2 hS rfl rfl rfl hb (jv rfl rfl rfl) rfl fun a w hS => ?_
     exact zo (hK _ _ (hS.up 2 rfl rfl))
    refine zF (v := Value.bool) (x0 := ((decide (M9 < (144 : Int))) || (decide (M9 ≥ (280 : Int))))) hS (xA rfl) rfl fun PN a w hz hS => ?_
    have hM := qz hz hM; clear hz
    refine qA <| qF hS rfl hM (fun Po hM => ?_) (fun Po hM => ?_)
    ·refine zM ?_
     refine sM hS rfl fun hS => sM hS rfl fun hS => ?_
     obtain ⟨NM, hM⟩ := qK hM
     refine sO hS (yu rfl rfl Tryd.runUnderlying66 Tryd.sizeOf3 (Ng.rd (i := 6) rfl) (fun _ => rfl) rfl NM) rfl fun hS => J1 (i := M9) (sz := 1) 6 0 ((8 : Int)) hS rfl rfl Ng rfl Tryd.sizeOf3 (xJ (8 : Int)) (fun _ => rfl) NM rfl rfl fun NC w Pv hz NQ Ph hS => ?_
     have hM := qz hz hM; clear hz
     replace hS := hS.re 2 (u := .slice M3 M6.length M4) (v := .slice M3 NC.length M4) rfl (by rw [NQ])
     replace hS := hS.re 22 (u := .slice M3 M6.length M4) (v := .slice M3 NC.length M4) rfl (by rw [NQ])
     refine zo <| zx (zx (qe ?_))
     refine zM <| sB hS rfl fun hS => sM hS rfl fun hS => zo <| qe ?_
     exact Nx _ _ ⟨NC, Pv, (qg (M9 + (1 : Int))), hS.to [0, 1, 2, 3, 4, 5, 6] (by kernel_rfl) ⟨rfl, rfl, rfl, rfl, rfl, trivial⟩, Ph, hM⟩
    ·refine wp_seq ?_
     refine zM <| sM hS rfl fun hS => sB hS rfl fun hS => zF (v := Value.bool) (x0 := (decide (M9 < (256 : Int)))) hS (xA rfl) rfl fun PO a w hz hS => ?_
     have hM := qz hz hM; clear hz
     refine qA <| qF hS rfl hM (fun Pp hM => ?_) (fun Pp hM => ?_)
     ·refine zM ?_
      refine sM hS rfl fun hS => sM hS rfl fun hS => ?_
      obtain ⟨NN, hM⟩ := qK hM
      refine sO hS (yu rfl rfl Tryd.runUnderlying66 Tryd.sizeOf3 (Ng.rd (i := 6) rfl) (fun _ => rfl) rfl NN) rfl fun hS => J1 (i := M9) (sz := 1) 6 0 ((9 : Int)) hS rfl rfl Ng rfl Tryd.sizeOf3 (xJ (9 : Int)) (fun _ => rfl) NN rfl rfl fun ND w Pw hz NR Pi hS => ?_
      have hM := qz hz hM; clear hz
      replace hS := hS.re 2 (u := .slice M3 M6.length M4) (v := .slice M3 ND.length M4) rfl (by rw [NR])
      replace hS := hS.re 28 (u := .slice M3 M6.length M4) (v := .slice M3 ND.length M4) rfl (by rw [NR])
      refine zo <| zx (zx (qe ?_))
      refine zM <| sB hS rfl fun hS => sM hS rfl fun hS => zo <| qe ?_
      exact Nx _ _ ⟨ND, Pw, (qg (M9 + (1 : Int))), hS.to [0, 1, 2, 3, 4, 5, 6] (by kernel_rfl) ⟨rfl, rfl, rfl, rfl, rfl, trivial⟩, Pi, hM⟩
     ·refine zM ?_
      refine sM hS rfl fun hS => sM hS rfl fun hS => ?_
      obtain ⟨NO, hM⟩ := qK hM
      refine sO hS (yu rfl rfl Tryd.runUnderlying66 Tryd.sizeOf3 (Ng.rd (i := 6) rfl) (fun _ => rfl) rfl NO) rfl fun hS => J1 (i := M9) (sz := 1) 6 0 ((7 : Int)) hS rfl rfl Ng rfl Tryd.sizeOf3 (xJ (7 : Int)) (fun _ => rfl) NO rfl rfl fun NE w Px hz NS Pj hS => ?_
      have hM := qz hz hM; clear hz
      replace hS := hS.re 2 (u := .slice M3 M6.length M4) (v := .slice M3 NE.length M4) rfl (by rw [NS])
      replace hS := hS.re 12 (u := .slice M3 M6.length M4) (v := .slice M3 NE.length M4) rfl (by rw [NS])
      refine zo <| zx (zx (qe ?_))
      refine zM <| sB hS rfl fun hS => sM hS rfl fun hS => zo <| qe ?_
      exact Nx _ _ ⟨NE, Px, (qg (M9 + (1 : Int))), hS.to [0, 1, 2, 3, 4, 5, 6] (by kernel_rfl) ⟨rfl, rfl, rfl, rfl, rfl, trivial⟩, Pj, hM⟩
   ·refine wp_exit ?_
    refine qE (qE (zd (qe ?_)))
    exact Pd _ _ ⟨M6, NJ, hS.to [0, 1, 2, 3, 4, 5, 6] (by kernel_rfl) ⟨rfl, rfl, rfl, trivial⟩, Ng, hM⟩
 ·intro a w hI
  obtain ⟨M5, Nj, hS, Ny, hM⟩ := hI
  rw [q7.j2] at hM
  refine wp_seq <| zM ?_
  obtain ⟨Ps, hM⟩ := qK hM
  refine DD (g := (ci .i64)) (m := (32 : Int)) (0 : Int) hS rfl rfl (by simp) Tryd.runUnderlying66 X.el3 (fun w => ⟨_, Tryd.zeroValue3 w, rfl⟩) (fun _ => rfl) rfl rfl Ps rfl fun NF w M7 M8 Py hz Pk hS => ?_
  have hM := qz hz hM; clear hz
  refine sA hS rfl fun hS => qA <| zl (fun a w => ∃ (Nf : (List Int)) (Nr : qk), Ss 46 [] [(0, qL NH 0), (1, qL NI 0), (2, .slice M3 M5.length M4), (4, .slice M7 Nf.length M8)] H [Nl, Nm, Nn, No, Np, Nq, Nj, Nr] F a w ∧ (xj 3 (ci .i64) 1 M7 Nf M8 Nr) ∧ (q7.j4 K M5 Nf).wp kr kp) (fun PJ Pf => ?_) ?_
  ·refine wp_seq ?_
   refine zM <| sM hS rfl fun hS => sO hS (yc rfl Tryd.runUnderlying66) rfl fun hS => sM hS rfl fun hS => qA <| xQ <| zv (fun N8 a w => ∃ (Nk : (List Int)) (NK : qk) (Nw : Int), Ss 46 [] [(0, qL NH 0), (1, qL NI 0), (2, .slice M3 M5.length M4), (4, .slice M7 Nk.length M8), (34, .int .i64 (NF.length : Int)), (35, .int .i64 Nw)] H [Nl, Nm, Nn, No, Np, Nq, Nj, NK] F a w ∧ (xj 3 (ci .i64) 1 M7 Nk M8 NK) ∧ (q7.l3 K M5 NF N8 Nk Nw).wp kr kp) K ?_ ?_ ?_
   ·exact ⟨NF, Py, (0 : Int), hS.to [1, 2, 3, 4, 5, 6, 7, 0] (by kernel_rfl) ⟨rfl, rfl, rfl, rfl, rfl, rfl, trivial⟩, Pk, hM⟩
   ·intro a w hI; obtain ⟨_, _, _, _, _, hM⟩ := hI; exact zu hM
   ·intro N8 a w hI PI Pe
    obtain ⟨Nk, NK, Nw, hS, Nz, hM⟩ := hI
    rw [q7.l3] at hM
    refine qm <| sB hS rfl fun hS => qA <| wp_seq <| qF hS rfl hM (fun Pq hM => ?_) (fun Pq hM => ?_)
    ·refine wp_skip ?_
     refine qe <| wp_seq <| xQ <| qm <| sM hS rfl fun hS => sA hS rfl fun hS => qA <| zM <| sM hS rfl fun hS => sM hS rfl fun hS => ?_
     obtain ⟨NP, hM⟩ := qK hM
     refine sO hS (yu rfl rfl Tryd.runUnderlying66 Tryd.sizeOf3 (Nz.rd (i := 7) rfl) (fun _ => rfl) rfl NP) rfl fun hS => J1 (i := Nw) (sz := 1) 7 0 ((5 : Int)) hS rfl rfl Nz rfl Tryd.sizeOf3 (xJ (5 : Int)) (fun _ => rfl) NP rfl rfl fun NG w Pz hz NT Pm hS => ?_
     have hM := qz hz hM; clear hz
     replace hS := hS.re 4 (u := .slice M7 Nk.length M8) (v := .slice M7 NG.length M8) rfl (by rw [NT])
     replace hS := hS.re 38 (u := .slice M7 Nk.length M8) (v := .slice M7 NG.length M8) rfl (by rw [NT])
     refine zo <| zx (qe ?_)
     refine zM <| sB hS rfl fun hS => sM hS rfl fun hS => zo <| qe ?_
     exact Pe _ _ ⟨NG, Pz, (qg (Nw + (1 : Int))), hS.to [0, 1, 2, 3, 4, 5, 6, 7] (by kernel_rfl) ⟨rfl, rfl, rfl, rfl, rfl, rfl, trivial⟩, Pm, hM⟩
    ·refine wp_exit ?_
     refine qE (qE (zd (qe ?_)))
     exact Pf _ _ ⟨Nk, NK, hS.to [0, 1, 2, 3, 4, 5, 6, 7] (by kernel_rfl) ⟨rfl, rfl, rfl, rfl, trivial⟩, Nz, hM⟩
  ·intro a w hI
   obtain ⟨Nf, Nr, hS, NA, hM⟩ := hI
   rw [q7.j4] at hM
   refine qm <| sM hS rfl fun hS => qI hS rfl Tryd.call35 (y7 hG K M5 M3 M4 (Ny.rdF (i := 6) rfl) (Ny.cap (fun _ => rfl) rfl) (hS.st.part 0 [0, 1, 2, 3, 4, 5, 6, 7] (by kernel_rfl)) (qt hM) (fun Ns Nu Na NL w hM PA hst => qB hS.ev hst.appF rfl fun hS => ?_))
   replace hS : Ss _ _ _ H [NL, Nl, Nm, Nn, No, Np, Nq, Nj, Nr] F _ _ := hS
   refine sM hS rfl fun hS => qI hS rfl Tryd.call35 (y7 hG K Nf M7 M8 (NA.rdF (i := 8) rfl) (NA.cap (fun _ => rfl) rfl) (hS.st.part 0 [0, 1, 2, 3, 4, 5, 6, 7, 8] (by kernel_rfl)) (qt hM) (fun Nt Nv Nb N2 w hM PB hst => qB hS.ev hst.appF rfl fun hS => ?_))
   replace hS : Ss _ _ _ H [N2, NL, Nl, Nm, Nn, No, Np, Nq, Nj, Nr] F _ _ := hS
   refine QX 2 ([.slice M3 M5.length M4, .slice Ns Na.length Nu]) ([.slice M3 M5.length M4, .slice Ns Na.length Nu]) hS rfl rfl N9 rfl rfl Tryd.sizeOf68 (by simp [Value.oneCell']) (Nat.le_of_ble_eq_true rfl) rfl fun w PL Pb hS => QX 5 ([.slice M7 Nf.length M8, .slice Nt Nb.length Nv]) ([.slice M7 Nf.length M8, .slice Nt Nb.length Nv]) hS rfl rfl Pa rfl rfl Tryd.sizeOf68 (by simp [Value.oneCell']) (Nat.le_of_ble_eq_true rfl) rfl fun w PM Pc hS => qA <| wp_ret ?_
   exact jl (vs := [.agg ⟨[.slice M3 M5.length M4, .slice Ns Na.length Nu]⟩, .agg ⟨[.slice M7 Nf.length M8, .slice Nt Nb.length Nv]⟩]) hS rfl (by exact ⟨Kl 2 ([.slice M3 M5.length M4, .slice Ns Na.length Nu]) rfl Pb rfl rfl rfl Tryd.isAgg68 Tryd.sizeOf68, Kl 5 ([.slice M7 Nf.length M8, .slice Nt Nb.length Nv]) rfl Pc rfl rfl rfl Tryd.isAgg68 Tryd.sizeOf68, trivial⟩) (hret M3 M4 M5 Nj Ns Nu Na NL M7 M8 Nf Nr Nt Nv Nb N2 _ (q8 hM) Ny PA NA PB (hS.st.pick [8, 1, 9, 0] (by kernel_rfl)))
theorem zm {H : xT} {F : List qk} {w : World} {R : Ending → World → Prop} {kr : (Int × Int × (List Int)) → Prop} {kp : Value → Prop} (hG : Gl H) (K : Nat) (M4 : qp) (NI : Int) (Nc : Int) (M7 : Nat) (NF : qk) (NC : Option Addr) (NE : Nat) (NG : qk) (Nf : Option Addr) (Nj : Nat) (Nu : qk) (Ng : Option Addr) (Nk : Nat) (Nv : qk) (Nh : Option Addr) (Nl : Nat) (Nw : qk) (Ni : Option Addr) (Nm : Nat) (Nx : qk) (NK : xM NF M7 ([.int .i64 M4.Writer_.place_.at_, .slice NC M4.Writer_.bytes_.length NE, .slice Nf M4.literals_.lengths_.length Nj, .slice Ng M4.literals_.codes_.length Nk, .slice Nh M4.distances_.lengths_.length Nl, .slice Ni M4.distances_.codes_.length Nm]) 70) (NN : xj 5 (ci .u8) 1 NC M4.Writer_.bytes_ NE NG) (Pi : xj 3 (ci .i64) 1 Nf M4.literals_.lengths_ Nj Nu) (Pj : xj 3 (ci .i64) 1 Ng M4.literals_.codes_ Nk Nv) (Pk : xj 3 (ci .i64) 1 Nh M4.distances_.lengths_ Nl Nw) (Pm : xj 3 (ci .i64) 1 Ni M4.distances_.codes_ Nm Nx)
    (hS : St w H [NF, NG, Nu, Nv, Nw, Nx] F) (hm : (qn.m K M4 NI Nc).wp kr kp)
    (hret : ∀ (NX : Int) (ND : Int) (NS : Option Addr) (NU : Nat) (Nd : (List Int)) (NV : qk) (NW : qk) (w : World), kr (NX, ND, Nd) → (xj 5 (ci .u8) 1 NS Nd NU NV) → (xM NW M7 ([.int .i64 ND, .slice NS Nd.length NU, .slice Nf M4.literals_.lengths_.length Nj, .slice Ng M4.literals_.codes_.length Nk, .slice Nh M4.distances_.lengths_.length Nl, .slice Ni M4.distances_.codes_.length Nm]) 70) → St w H [NW, NV, Nu, Nv, Nw, Nx] F → R (.returned (.int .i64 NX)) w) :
    Calls Tryd.prog 30 ⟨[qL M7 0, .int .u32 NI, .int .i64 Nc]⟩ w R := by
 refine enter Tryd.func30 rfl Tryd.ntmps30 rfl hS fun a w hS => ?_
 have hM := hm; clear hm
 rw [qn.m] at hM
 refine qm <| sA hS rfl fun hS => qA <| wp_seq <| qm <| sM hS rfl fun hS => sO hS (XV rfl rfl Tryd.runUnderlying105) rfl fun hS => sM hS rfl fun hS => z2 hS rfl rfl rfl rfl (mv rfl) rfl fun a w hS => z2 hS rfl rfl rfl rfl (jv rfl rfl rfl) rfl fun a w hS => sO hS (pk rfl rfl rfl) rfl fun hS => sM hS rfl fun hS => y4 2 false 14 (b := (decide (Nc < (0 : Int)))) (r := (decide (Nc > (32 : Int)))) hS rfl rfl rfl rfl rfl rfl rfl (fun hb a w hS K hK => ?_) rfl fun a w hS => ?_
 ·refine z2 hS rfl rfl rfl hb (mv rfl) rfl fun a w hS => ?_
  refine z2 hS rfl rfl rfl hb (jv rfl rfl rfl) rfl fun a w hS => ?_
  exact zo (hK _ _ (hS.up 2 rfl rfl))
 refine sM hS rfl fun hS => ?_
 obtain ⟨N8, hM⟩ := qK hM
 refine y4 5 false 18 (b := ((decide (Nc < (0 : Int))) || (decide (Nc > (32 : Int))))) (r := (decide ((xb .u64 (wr .u64 NI) Nc) > (0 : Int)))) hS rfl rfl rfl rfl rfl rfl rfl (fun hb a w hS K hK => ?_) rfl fun a w hS => ?_
 ·refine z2 hS rfl rfl rfl hb (mv rfl) rfl fun a w hS => ?_
  refine z2 hS rfl rfl rfl hb (ux rfl Tryd.runUnderlying25 Tryd.runUnderlying36) rfl fun a w hS => z2 hS rfl rfl rfl hb (mv rfl) rfl fun a w hS => ?_
  have N7 := G7 N8 hb
  refine z2 hS rfl rfl rfl hb (shr rfl rfl N7) rfl fun a w hS => z2 hS rfl rfl rfl hb (jv rfl rfl rfl) rfl fun a w hS => ?_
  exact zo (hK _ _ (hS.up 5 rfl rfl))
 refine qA <| qF hS rfl hM (fun N4 hM => ?_) (fun N4 hM => ?_)
 ·refine wp_seq ?_
  refine zM <| sA hS rfl fun hS => qA <| wp_ret <| zk ?_
  exact zE (rs := [6]) hS rfl rfl (hret (1 : Int) M4.Writer_.place_.at_ NC NE M4.Writer_.bytes_ NG NF _ (q8 hM) NN NK (hS.st.pick [0, 1, 2, 3, 4, 5] (by kernel_rfl)))
 ·refine wp_skip ?_
  refine qe <| wp_seq <| xQ <| zv (fun NP a w => ∃ (M3 : Int) (Ns : Option Addr) (Nt : Nat) (M9 : (List Int)) (Ny : qk) (Nz : qk) (M8 : Int) (Nb : Int), Ss 95 [] [(0, qL M7 0), (1, .int .u32 M8), (2, .int .i64 Nb)] H [Nz, Ny, Nu, Nv, Nw, Nx] F a w ∧ (xj 5 (ci .u8) 1 Ns M9 Nt Ny) ∧ (xM Nz M7 ([.int .i64 M3, .slice Ns M9.length Nt, .slice Nf M4.literals_.lengths_.length Nj, .slice Ng M4.literals_.codes_.length Nk, .slice Nh M4.distances_.lengths_.length Nl, .slice Ni M4.distances_.codes_.length Nm]) 70) ∧ (qn.l1 K NP M3 M9 M8 Nb).wp kr kp) K ?_ ?_ ?_
  ·exact ⟨M4.Writer_.place_.at_, NC, NE, M4.Writer_.bytes_, NG, NF, NI, Nc, hS.to [0, 1, 2, 3, 4, 5] (by kernel_rfl) ⟨rfl, rfl, rfl, trivial⟩, NN, NK, hM⟩
  ·intro a w hI; obtain ⟨_, _, _, _, _, _, _, _, _, _, _, hM⟩ := hI; exact zu hM
  ·intro NP a w hI Pp N0
   obtain ⟨M3, Ns, Nt, M9, Ny, Nz, M8, Nb, hS, NA, No, hM⟩ := hI
   rw [qn.l1] at hM
   refine wp_seq <| qm <| sM hS rfl fun hS => sB hS rfl fun hS => qA <| qF hS rfl hM (fun N5 hM => ?_) (fun N5 hM => ?_)
   ·refine wp_skip ?_
    refine qe <| xQ <| zl (fun a w => ∃ (Na : Option Addr) (Nn : Nat) (M6 : (List Int)) (NJ : qk) (NH : qk), Ss 95 [] [(0, qL M7 0), (1, .int .u32 M8), (2, .int .i64 Nb)] H [NH, NJ, Nu, Nv, Nw, Nx] F a w ∧ (xj 5 (ci .u8) 1 Na M6 Nn NJ) ∧ (xM NH M7 ([.int .i64 M3, .slice Na M6.length Nn, .slice Nf M4.literals_.lengths_.length Nj, .slice Ng M4.literals_.codes_.length Nk, .slice Nh M4.distances_.lengths_.length Nl, .slice Ni M4.distances_.codes_.length Nm]) 70) ∧ (qn.j2 K (qn.l1 K NP) M3 M8 Nb M6).wp kr kp) (fun Po NM => ?_) ?_
    ·refine wp_seq ?_
     refine zM <| sM hS rfl fun hS => sO hS (yz rfl) rfl fun hS => sO hS (xw rfl Tryd.runUnderlying65 rfl Tryd.sizeOf63 rfl) rfl fun hS => sO hS (xw rfl Tryd.runUnderlying63 rfl Tryd.sizeOf3 rfl) rfl fun hS => sO hS (x5 0 rfl No rfl rfl Tryd.isAgg3) rfl fun hS => sB hS rfl fun hS => sB hS rfl fun hS => qA <| qF hS rfl hM (fun N6 hM => ?_) (fun N6 hM => ?_)
     ·refine zM ?_
      refine sM hS rfl fun hS => sM hS rfl fun hS => sO hS (yz rfl) rfl fun hS => sO hS (xw rfl Tryd.runUnderlying65 rfl Tryd.sizeOf32 rfl) rfl fun hS => sO hS (x5 0 rfl No rfl rfl Tryd.isAgg32) rfl fun hS => Jv (g := (ci .u8)) ([(0 : Int)] : List Int) [.int .u8 (0 : Int)] hS Tryd.runUnderlying32 Tryd.sizeOf5 X.el5 rfl rfl rfl (by simp [Value.cells]) rfl rfl rfl rfl rfl fun w Pn Pq Pr N1 hS => ?_
      obtain ⟨N9, hM⟩ := qK hM
      refine J5 (ys := ([(0 : Int)] : List Int)) 2 hS rfl rfl NA rfl (N1.rd (i := 0) rfl) Tryd.runUnderlying32 Tryd.runUnderlying32 X.el5 (fun _ => rfl) rfl u4 N9 rfl fun NQ w NR NT Pd hz N2 hS => ?_
      have hM := qz hz hM; clear hz
      refine sO hS (yz rfl) rfl fun hS => sO hS (xw rfl Tryd.runUnderlying65 rfl Tryd.sizeOf32 rfl) rfl fun hS => J7 1 ([.int .i64 M3, .slice NR NQ.length NT, .slice Nf M4.literals_.lengths_.length Nj, .slice Ng M4.literals_.codes_.length Nk, .slice Nh M4.distances_.lengths_.length Nl, .slice Ni M4.distances_.codes_.length Nm]) hS rfl rfl No rfl rfl rfl rfl Tryd.sizeOf32 fun w Pe NY hS => zo <| qe ?_
      exact NM _ _ ⟨NR, NT, NQ, Pd, Pe, hS.to [1, 2, 3, 4, 5, 6] (by kernel_rfl) ⟨rfl, rfl, rfl, trivial⟩, N2, NY, hM⟩
     ·refine wp_skip ?_
      refine qe ?_
      exact NM _ _ ⟨Ns, Nt, M9, Ny, Nz, hS.to [0, 1, 2, 3, 4, 5] (by kernel_rfl) ⟨rfl, rfl, rfl, trivial⟩, NA, No, hM⟩
    ·intro a w hI
     obtain ⟨Na, Nn, M6, NJ, NH, hS, Nq, Np, hM⟩ := hI
     rw [qn.j2] at hM
     refine qm <| sM hS rfl fun hS => sO hS (yz rfl) rfl fun hS => sO hS (xw rfl Tryd.runUnderlying65 rfl Tryd.sizeOf63 rfl) rfl fun hS => sO hS (xw rfl Tryd.runUnderlying63 rfl Tryd.sizeOf3 rfl) rfl fun hS => sO hS (x5 0 rfl Np rfl rfl Tryd.isAgg3) rfl fun hS => sB hS rfl fun hS => sB hS rfl fun hS => sM hS rfl fun hS => sO hS (Us rfl rfl) rfl fun hS => zF (v := Value.int .i64) (x0 := (if Nb < (qg ((8 : Int) - (xH .i64 M3 (7 : Int)))) then Nb else (qg ((8 : Int) - (xH .i64 M3 (7 : Int)))))) hS (xA rfl) rfl fun M5 a w hz hS => ?_
     have hM := qz hz hM; clear hz
     refine qA <| wp_seq ?_
     obtain ⟨Nr, hM⟩ := qK hM
     obtain ⟨NO, hM⟩ := qK hM
     obtain ⟨Pa, hM⟩ := qK hM
     refine q9 (vals := [some (qL M7 0), some (qL M7 0), some (qL M7 1), some (.slice Na M6.length Nn), some (qL M7 0), some (qL M7 0), some (qL M7 0), some (qL M7 0), some (.int .i64 M3), some (.int .i64 (yb .i64 M3 (8 : Int))), some (xE Na (Int.toNat (yb .i64 M3 (8 : Int)) * 1)), some (.int .u8 (rd M6 (yb .i64 M3 (8 : Int)))), some (.int .u32 M8), some (.int .i64 M5), some (.int .u32 (z8 .u32 (1 : Int) M5)), some (.int .u32 (wr .u32 ((z8 .u32 (1 : Int) M5) - (1 : Int)))), some (.int .u32 (xH .u32 M8 (wr .u32 ((z8 .u32 (1 : Int) M5) - (1 : Int))))), some (.int .u8 (wr .u8 (xH .u32 M8 (wr .u32 ((z8 .u32 (1 : Int) M5) - (1 : Int)))))), some (qL M7 0), some (qL M7 0), some (qL M7 0), some (qL M7 0), some (.int .i64 M3), some (.int .i64 (xH .i64 M3 (7 : Int))), some (.int .u8 (z8 .u8 (wr .u8 (xH .u32 M8 (wr .u32 ((z8 .u32 (1 : Int) M5) - (1 : Int))))) (xH .i64 M3 (7 : Int)))), some (.int .u8 (QS .u8 (rd M6 (yb .i64 M3 (8 : Int))) (z8 .u8 (wr .u8 (xH .u32 M8 (wr .u32 ((z8 .u32 (1 : Int) M5) - (1 : Int))))) (xH .i64 M3 (7 : Int))))), some (xE Na (Int.toNat (yb .i64 M3 (8 : Int)) * 1)), none]) hS xF rfl ?_
     intro l w ho hcl hA hst
     refine jf hA hst ho hcl xu xG 27 [0, 1, 2, 3, 4, 5, 6, 7, 8, 9, 10, 11, 12, 13, 14, 15, 16, 17, 18, 19, 20, 21, 22, 23, 24, 25, 26] rfl rfl rfl rfl rfl (by exact ⟨nM rfl, nQ rfl (by exact qX (yz rfl) rfl), nQ rfl (by exact qX (xw rfl Tryd.runUnderlying65 rfl Tryd.sizeOf32 rfl) rfl), nQ rfl (by exact qX (x5 0 rfl Np rfl rfl Tryd.isAgg32) rfl), nM rfl, nQ rfl (by exact qX (yz rfl) rfl), nQ rfl (by exact qX (xw rfl Tryd.runUnderlying65 rfl Tryd.sizeOf63 rfl) rfl), nQ rfl (by exact qX (xw rfl Tryd.runUnderlying63 rfl Tryd.sizeOf3 rfl) rfl), nQ rfl (by exact qX (x5 0 rfl Np rfl rfl Tryd.isAgg3) rfl), nQ rfl (by exact qX (quo rfl rfl rfl) rfl), nQ rfl (by exact qX (yu rfl rfl Tryd.runUnderlying32 Tryd.sizeOf5 (Nq.rd (i := 1) rfl) (fun _ => rfl) rfl Nr) rfl), nQ rfl (by exact qX (yG rfl (Nq.rd (i := 1) rfl) (fun _ => rfl) Nr rfl Tryd.isAgg5) rfl), nM rfl, nM rfl, nQ rfl (by exact qX (shl rfl rfl NO) rfl), nB rfl, nB rfl, nQ rfl (by exact qX (ux rfl Tryd.runUnderlying25 Tryd.runUnderlying5) rfl), nM rfl, nQ rfl (by exact qX (yz rfl) rfl), nQ rfl (by exact qX (xw rfl Tryd.runUnderlying65 rfl Tryd.sizeOf63 rfl) rfl), nQ rfl (by exact qX (xw rfl Tryd.runUnderlying63 rfl Tryd.sizeOf3 rfl) rfl), nQ rfl (by exact qX (x5 0 rfl Np rfl rfl Tryd.isAgg3) rfl), nB rfl, nQ rfl (by exact qX (shl rfl rfl Pa) rfl), nB rfl, nQ rfl (by exact qX (yu rfl rfl Tryd.runUnderlying32 Tryd.sizeOf5 (Nq.rd (i := 1) rfl) (fun _ => rfl) rfl Nr) rfl), trivial⟩) fun D l a w ho hcl hav hpre hm hE hk hA hst => ?_
     have hS := (Ss.mk hE hst).env2 (e' := [(77, .int .u8 (QS .u8 (rd M6 (yb .i64 M3 (8 : Int))) (z8 .u8 (wr .u8 (xH .u32 M8 (wr .u32 ((z8 .u32 (1 : Int) M5) - (1 : Int))))) (xH .i64 M3 (7 : Int))))), (78, xE Na (Int.toNat (yb .i64 M3 (8 : Int)) * 1))]) ⟨rfl, rfl, trivial⟩
     refine qR rfl <| J1 (i := (yb .i64 M3 (8 : Int))) (sz := 1) 1 0 ((QS .u8 (rd M6 (yb .i64 M3 (8 : Int))) (z8 .u8 (wr .u8 (xH .u32 M8 (wr .u32 ((z8 .u32 (1 : Int) M5) - (1 : Int))))) (xH .i64 M3 (7 : Int))))) hS rfl rfl Nq rfl Tryd.sizeOf5 (u4 (QS .u8 (rd M6 (yb .i64 M3 (8 : Int))) (z8 .u8 (wr .u8 (xH .u32 M8 (wr .u32 ((z8 .u32 (1 : Int) M5) - (1 : Int))))) (xH .i64 M3 (7 : Int))))) (fun _ => rfl) Nr rfl rfl fun NB w Pf hz Pb N3 hS => ?_
     have hM := qz hz hM; clear hz
     have NL : xM NH M7 ([.int .i64 M3, .slice Na NB.length Nn, .slice Nf M4.literals_.lengths_.length Nj, .slice Ng M4.literals_.codes_.length Nk, .slice Nh M4.distances_.lengths_.length Nl, .slice Ni M4.distances_.codes_.length Nm]) 70 := by rw [Pb]; exact Np
     refine qA ?_
     replace hst := hS.st
     obtain ⟨hcl, hmust, hav2, hA⟩ := Xy (vals' := [some (qL M7 0), some (qL M7 0), some (qL M7 1), some (.slice Na M6.length Nn), some (qL M7 0), some (qL M7 0), some (qL M7 0), some (qL M7 0), some (.int .i64 M3), some (.int .i64 (yb .i64 M3 (8 : Int))), some (xE Na (Int.toNat (yb .i64 M3 (8 : Int)) * 1)), some (.int .u8 (rd M6 (yb .i64 M3 (8 : Int)))), some (.int .u32 M8), some (.int .i64 M5), some (.int .u32 (z8 .u32 (1 : Int) M5)), some (.int .u32 (wr .u32 ((z8 .u32 (1 : Int) M5) - (1 : Int)))), some (.int .u32 (xH .u32 M8 (wr .u32 ((z8 .u32 (1 : Int) M5) - (1 : Int))))), some (.int .u8 (wr .u8 (xH .u32 M8 (wr .u32 ((z8 .u32 (1 : Int) M5) - (1 : Int)))))), some (qL M7 0), some (qL M7 0), some (qL M7 0), some (qL M7 0), some (.int .i64 M3), some (.int .i64 (xH .i64 M3 (7 : Int))), some (.int .u8 (z8 .u8 (wr .u8 (xH .u32 M8 (wr .u32 ((z8 .u32 (1 : Int) M5) - (1 : Int))))) (xH .i64 M3 (7 : Int)))), some (.int .u8 (QS .u8 (rd M6 (yb .i64 M3 (8 : Int))) (z8 .u8 (wr .u8 (xH .u32 M8 (wr .u32 ((z8 .u32 (1 : Int) M5) - (1 : Int))))) (xH .i64 M3 (7 : Int))))), some (xE Na (Int.toNat (yb .i64 M3 (8 : Int)) * 1)), some undef]) 27 [(0, 27), (1, 27), (2, 27), (3, 27), (4, 27), (5, 27), (6, 27), (7, 27), (8, 27), (9, 27), (10, 27), (11, 27), (12, 27), (13, 27), (14, 27), (15, 27), (16, 27), (17, 27), (18, 27), (19, 27), (20, 27), (21, 27), (22, 27), (23, 27), (24, 27), (25, 27), (26, 27)] hA hcl hav hm hpre rfl rfl rfl rfl rfl
     clear hm hav
     refine yk hA hst ho hcl hmust [] rfl rfl rfl trivial fun a w hS => ?_
     replace hS := hS.env2 (e' := [(0, qL M7 0), (1, .int .u32 M8), (2, .int .i64 Nb), (7, .int .i64 M5)]) ⟨rfl, rfl, rfl, rfl, trivial⟩
     refine qe <| qm <| sM hS rfl fun hS => sM hS rfl fun hS => sO hS (shr rfl rfl NO) rfl fun hS => zF (v := Value.int .u32) (x0 := (xb .u32 M8 M5)) hS (xA rfl) rfl fun Ph a w hz hS => ?_
     have hM := qz hz hM; clear hz
     refine qA <| qm <| sM hS rfl fun hS => sO hS (yz rfl) rfl fun hS => sO hS (xw rfl Tryd.runUnderlying65 rfl Tryd.sizeOf63 rfl) rfl fun hS => sO hS (xw rfl Tryd.runUnderlying63 rfl Tryd.sizeOf3 rfl) rfl fun hS => sO hS (x5 0 rfl NL rfl rfl Tryd.isAgg3) rfl fun hS => sM hS rfl fun hS => sB hS rfl fun hS => sO hS (yz rfl) rfl fun hS => sO hS (xw rfl Tryd.runUnderlying65 rfl Tryd.sizeOf63 rfl) rfl fun hS => sO hS (xw rfl Tryd.runUnderlying63 rfl Tryd.sizeOf3 rfl) rfl fun hS => J7 0 ([.int .i64 (qg (M3 + M5)), .slice Na NB.length Nn, .slice Nf M4.literals_.lengths_.length Nj, .slice Ng M4.literals_.codes_.length Nk, .slice Nh M4.distances_.lengths_.length Nl, .slice Ni M4.distances_.codes_.length Nm]) hS rfl rfl NL rfl rfl rfl rfl Tryd.sizeOf3 fun w Pg NZ hS => qA <| zM <| sM hS rfl fun hS => sM hS rfl fun hS => sB hS rfl fun hS => zF (v := Value.int .i64) (x0 := (qg (Nb - M5))) hS (xA rfl) rfl fun Pc a w hz hS => ?_
     have hM := qz hz hM; clear hz
     refine zo <| zx (qe ?_)
     exact N0 _ _ ⟨(qg (M3 + M5)), Na, Nn, NB, Pf, Pg, Ph, Pc, hS.to [0, 1, 2, 3, 4, 5] (by kernel_rfl) ⟨rfl, rfl, rfl, trivial⟩, N3, NZ, hM⟩
   ·refine wp_exit ?_
    refine qE (qE (zd (qe ?_)))
    refine qm <| sA hS rfl fun hS => qA <| wp_ret ?_
    exact zE (rs := [6]) hS rfl rfl (hret (0 : Int) M3 Ns Nt M9 Ny Nz _ (q8 hM) NA No (hS.st.pick [0, 1, 2, 3, 4, 5] (by kernel_rfl)))
theorem yr {H : xT} {F : List qk} {w : World} {R : Ending → World → Prop} {kr : (Int × (List Int)) → Prop} {kp : Value → Prop} (hG : Gl H) (K : Nat) (M3 : qp) (NO : qv) (M4 : Int) (M7 : Nat) (Ny : qk) (Nw : Option Addr) (Nx : Nat) (Nz : qk) (Nc : Option Addr) (Nd : Nat) (Nf : qk) (M8 : Option Addr) (Na : Nat) (Ng : qk) (Nj : Option Addr) (Nm : Nat) (Nh : qk) (Nk : Option Addr) (Nn : Nat) (Ni : qk) (NP : xM Ny M7 ([.int .i64 M3.Writer_.place_.at_, .slice Nw M3.Writer_.bytes_.length Nx, .slice Nc M3.literals_.lengths_.length Nd, .slice M8 M3.literals_.codes_.length Na, .slice Nj M3.distances_.lengths_.length Nm, .slice Nk M3.distances_.codes_.length Nn]) 70) (NR : xj 5 (ci .u8) 1 Nw M3.Writer_.bytes_ Nx Nz) (Nr : xj 3 (ci .i64) 1 Nc M3.literals_.lengths_ Nd Nf) (Ns : xj 3 (ci .i64) 1 M8 M3.literals_.codes_ Na Ng) (NS : xj 3 (ci .i64) 1 Nj M3.distances_.lengths_ Nm Nh) (NT : xj 3 (ci .i64) 1 Nk M3.distances_.codes_ Nn Ni)
    (hS : St w H [Ny, Nz, Nf, Ng, Nh, Ni] F) (hm : (zK.m K M3 NO M4).wp kr kp)
    (hret : ∀ (Nt : Int) (NG : Option Addr) (NH : Nat) (Nb : (List Int)) (NL : qk) (NM : qk) (w : World), kr (Nt, Nb) → (xj 5 (ci .u8) 1 NG Nb NH NL) → (xM NM M7 ([.int .i64 Nt, .slice NG Nb.length NH, .slice Nc M3.literals_.lengths_.length Nd, .slice M8 M3.literals_.codes_.length Na, .slice Nj M3.distances_.lengths_.length Nm, .slice Nk M3.distances_.codes_.length Nn]) 70) → St w H [NM, NL, Nf, Ng, Nh, Ni] F → R (.returned (.tuple ⟨[]⟩)) w) :
    Calls Tryd.prog 39 ⟨[qL M7 0, .agg ⟨[.slice Nc M3.literals_.lengths_.length Nd, .slice M8 M3.literals_.codes_.length Na]⟩, .int .i64 M4]⟩ w R := by
 refine enter Tryd.func39 rfl Tryd.ntmps39 rfl hS fun a w hS => ?_
 have hM := hm; clear hm
 rw [zK.m] at hM
 refine qm <| bx ([.slice Nc M3.literals_.lengths_.length Nd, .slice M8 M3.literals_.codes_.length Na]) hS rfl rfl rfl fun w Nu NI NA hS => qA <| qm <| sO hS (xw rfl Tryd.runUnderlying68 rfl Tryd.sizeOf66 rfl) rfl fun hS => sO hS (x5 0 rfl NA rfl rfl Tryd.isAgg66) rfl fun hS => sM hS rfl fun hS => ?_
 obtain ⟨ND, hM⟩ := qK hM
 refine sO hS (yu rfl rfl Tryd.runUnderlying66 Tryd.sizeOf3 (Nr.rd (i := 3) rfl) (fun _ => rfl) rfl ND) rfl fun hS => sO hS (yG rfl (Nr.rd (i := 3) rfl) (fun _ => rfl) ND rfl Tryd.isAgg3) rfl fun hS => sB hS rfl fun hS => zF (v := Value.int .i64) (x0 := (qg ((rd M3.literals_.lengths_ M4) - (1 : Int)))) hS (xA rfl) rfl fun N0 a w hz hS => ?_
 have hM := qz hz hM; clear hz
 refine qA <| xQ <| zv (fun NN a w => ∃ (M9 : Int) (Nl : Option Addr) (No : Nat) (M5 : (List Int)) (Np : qk) (Nq : qk) (M6 : Int), Ss 30 [] [(0, qL M7 0), (2, .int .i64 M4), (4, qL Nu 0), (6, .int .i64 M6)] H [Nq, Np, Nf, Ng, Nh, Ni, NI] F a w ∧ (xj 5 (ci .u8) 1 Nl M5 No Np) ∧ (xM Nq M7 ([.int .i64 M9, .slice Nl M5.length No, .slice Nc M3.literals_.lengths_.length Nd, .slice M8 M3.literals_.codes_.length Na, .slice Nj M3.distances_.lengths_.length Nm, .slice Nk M3.distances_.codes_.length Nn]) 70) ∧ (zK.l1 K M3 M4 NN M9 M5 M6).wp kr kp) K ?_ ?_ ?_
 ·exact ⟨M3.Writer_.place_.at_, Nw, Nx, M3.Writer_.bytes_, Nz, Ny, N0, hS.to [1, 2, 3, 4, 5, 6, 0] (by kernel_rfl) ⟨rfl, rfl, rfl, rfl, trivial⟩, NR, NP, hM⟩
 ·intro a w hI; obtain ⟨_, _, _, _, _, _, _, _, _, _, hM⟩ := hI; exact zu hM
 ·intro NN a w hI N3 NQ
  obtain ⟨M9, Nl, No, M5, Np, Nq, M6, hS, NC, NB, hM⟩ := hI
  rw [zK.l1] at hM
  refine wp_seq <| qm <| sM hS rfl fun hS => sB hS rfl fun hS => qA <| qF hS rfl hM (fun NU hM => ?_) (fun NU hM => ?_)
  ·refine wp_skip ?_
   refine qe <| wp_seq <| xQ ?_
   obtain ⟨NE, hM⟩ := qK hM
   obtain ⟨NV, hM⟩ := qK hM
   refine q9 (vals := [some (qL M7 0), some (qL M7 0), some (qL M7 0), some (qL Nu 1), some (.slice M8 M3.literals_.codes_.length Na), some (.int .i64 M4), some (xE M8 (Int.toNat M4 * 1)), some (.int .i64 (rd M3.literals_.codes_ M4)), some (.int .i64 M6), some (.int .i64 (xb .i64 (rd M3.literals_.codes_ M4) M6)), some (.int .i64 (xH .i64 (xb .i64 (rd M3.literals_.codes_ M4) M6) (1 : Int))), some (.int .u32 (wr .u32 (xH .i64 (xb .i64 (rd M3.literals_.codes_ M4) M6) (1 : Int)))), none]) hS xF rfl ?_
   intro l w ho hcl hA hst
   refine jf hA hst ho hcl xu xG 12 [0, 1, 2, 3, 4, 5, 6, 7, 8, 9, 10, 11] rfl rfl rfl rfl rfl (by exact ⟨nM rfl, nQ rfl (by exact qX (yz rfl) rfl), nQ rfl (by exact qX (xw rfl Tryd.runUnderlying70 rfl Tryd.sizeOf65 rfl) rfl), nQ rfl (by exact qX (xw rfl Tryd.runUnderlying68 rfl Tryd.sizeOf66 rfl) rfl), nQ rfl (by exact qX (x5 6 rfl NA rfl rfl Tryd.isAgg66) rfl), nM rfl, nQ rfl (by exact qX (yu rfl rfl Tryd.runUnderlying66 Tryd.sizeOf3 (Ns.rd (i := 3) rfl) (fun _ => rfl) rfl NE) rfl), nQ rfl (by exact qX (yG rfl (Ns.rd (i := 3) rfl) (fun _ => rfl) NE rfl Tryd.isAgg3) rfl), nM rfl, nQ rfl (by exact qX (shr rfl rfl NV) rfl), nB rfl, nQ rfl (by exact qX (ux rfl Tryd.runUnderlying3 Tryd.runUnderlying25) rfl), trivial⟩) fun D l a w ho hcl hav hpre hm hE hk hA hst => ?_
   have hS := (Ss.mk hE hst).env2 (e' := [(19, qL M7 0), (28, .int .u32 (wr .u32 (xH .i64 (xb .i64 (rd M3.literals_.codes_ M4) M6) (1 : Int))))]) ⟨rfl, rfl, trivial⟩
   refine qR rfl <| qI hS rfl Tryd.call30 (zm hG K (qp.mk (qS.mk (qr.mk M9) M5) M3.literals_ M3.distances_) (wr .u32 (xH .i64 (xb .i64 (rd M3.literals_.codes_ M4) M6) (1 : Int))) (1 : Int) M7 Nq Nl No Np Nc Nd Nf M8 Na Ng Nj Nm Nh Nk Nn Ni NB NC Nr Ns NS NT (hS.st.part 6 [0, 1, 2, 3, 4, 5, 6] (by kernel_rfl)) (qt hM) (fun N2 NF NW NX Nv NJ NK w hM NY NZ hst => qB hS.ev hst.appF rfl fun hS => ?_))
   replace hS : Ss _ _ _ H [NK, NJ, Nf, Ng, Nh, Ni, NI] F _ _ := hS
   refine qA ?_
   replace hst := hS.st
   obtain ⟨hcl, hmust, hav2, hA⟩ := dn (vals' := [some (qL M7 0), some (qL M7 0), some (qL M7 0), some (qL Nu 1), some (.slice M8 M3.literals_.codes_.length Na), some (.int .i64 M4), some (xE M8 (Int.toNat M4 * 1)), some (.int .i64 (rd M3.literals_.codes_ M4)), some (.int .i64 M6), some (.int .i64 (xb .i64 (rd M3.literals_.codes_ M4) M6)), some (.int .i64 (xH .i64 (xb .i64 (rd M3.literals_.codes_ M4) M6) (1 : Int))), some (.int .u32 (wr .u32 (xH .i64 (xb .i64 (rd M3.literals_.codes_ M4) M6) (1 : Int)))), some (.int .i64 N2)]) 12 [(2, 12), (11, 12), (1, 2), (10, 11), (0, 1), (9, 10), (7, 9), (8, 9), (6, 7), (4, 6), (5, 6), (3, 4)] hA hcl hav hm hpre hk rfl rfl rfl rfl rfl rfl rfl
   clear hm hav
   refine yk hA hst ho hcl hmust [] rfl rfl rfl trivial fun a w hS => ?_
   replace hS := hS.env2 (e' := [(0, qL M7 0), (2, .int .i64 M4), (4, qL Nu 0), (6, .int .i64 M6)]) ⟨rfl, rfl, rfl, rfl, trivial⟩
   refine zx (qe ?_)
   refine zM <| sM hS rfl fun hS => sB hS rfl fun hS => zF (v := Value.int .i64) (x0 := (qg (M6 - (1 : Int)))) hS (xA rfl) rfl fun N1 a w hz hS => ?_
   have hM := qz hz hM; clear hz
   refine zo <| qe ?_
   exact NQ _ _ ⟨NF, NW, NX, Nv, NJ, NK, N1, hS.to [0, 1, 2, 3, 4, 5, 6] (by kernel_rfl) ⟨rfl, rfl, rfl, rfl, trivial⟩, NY, NZ, hM⟩
  ·refine wp_exit ?_
   refine qE (qE (zd ?_))
   exact jS (rs := []) hS rfl rfl (hret M9 Nl No M5 Np Nq _ (q8 hM) NC NB (hS.st.pick [0, 1, 2, 3, 4, 5] (by kernel_rfl)))
theorem uC {H : xT} {F : List qk} {w : World} {R : Ending → World → Prop} {kr : (Int × Int × Int) → Prop} {kp : Value → Prop} (hG : Gl H) (K : Nat) (M6 : Int) (M5 : Int)
    (hS : St w H [] F) (hm : (z6.m K M6 M5).wp kr kp)
    (hret : ∀ (M9 : Int) (Na : Int) (Nb : Int) (w : World), kr (M9, Na, Nb) → St w H [] F → R (.returned (.agg ⟨[.int .i64 M9, .int .i64 Na, .int .u32 Nb]⟩)) w) :
    Calls Tryd.prog 51 ⟨[.int .i64 M6, .int .i64 M5]⟩ w R := by
 refine enter Tryd.func51 rfl Tryd.ntmps51 rfl hS fun a w hS => ?_
 have hM := hm; clear hm
 rw [z6.m] at hM
 refine qm <| QI ([.int .i64 (0 : Int), .int .i64 (0 : Int), .int .u32 (0 : Int)]) hS Tryd.zeroValue77 rfl rfl fun w Nc Nf Nh hS => qA <| qm <| sM hS rfl fun hS => sA hS rfl fun hS => sA hS rfl fun hS => qA <| zl (fun a w => ∃ (M3 : Int) (M4 : Int), Ss 29 [] [(0, .int .i64 M6), (1, .int .i64 M5), (4, qL Nc 0), (5, .int .i64 M3), (6, .int .i64 M4)] H [Nf] F a w ∧ (z6.j2 K M6 M5 M3 M4).wp kr kp) (fun Nr Nk => ?_) ?_
 ·refine xQ ?_
  refine zv (fun Ng a w => ∃ (M8 : Int) (M7 : Int), Ss 29 [] [(0, .int .i64 M6), (1, .int .i64 M5), (4, qL Nc 0), (5, .int .i64 M8), (6, .int .i64 M7)] H [Nf] F a w ∧ (z6.l1 K M6 M5 Ng M8 M7).wp kr kp) K ?_ ?_ ?_
  ·exact ⟨(0 : Int), M6, hS.to [0] (by kernel_rfl) ⟨rfl, rfl, rfl, rfl, rfl, trivial⟩, hM⟩
  ·intro a w hI; obtain ⟨_, _, _, hM⟩ := hI; exact zu hM
  ·intro Ng a w hI Nq Nj
   obtain ⟨M8, M7, hS, hM⟩ := hI
   rw [z6.l1] at hM
   refine wp_seq <| qm <| sM hS rfl fun hS => sM hS rfl fun hS => ?_
   obtain ⟨Nm, hM⟩ := qK hM
   refine sO hS (shl rfl rfl Nm) rfl fun hS => sB hS rfl fun hS => qA <| qF hS rfl hM (fun Nl hM => ?_) (fun Nl hM => ?_)
   ·refine wp_skip ?_
    refine qe <| xQ <| qm <| sM hS rfl fun hS => sO hS (shr rfl rfl rfl) rfl fun hS => zF (v := Value.int .i64) (x0 := (xb .i64 M7 (1 : Int))) hS (xA rfl) rfl fun Nd a w hz hS => ?_
    have hM := qz hz hM; clear hz
    refine qA <| zM <| sM hS rfl fun hS => sB hS rfl fun hS => zF (v := Value.int .i64) (x0 := (qg (M8 + (1 : Int)))) hS (xA rfl) rfl fun Np a w hz hS => ?_
    have hM := qz hz hM; clear hz
    refine zo <| zx (qe ?_)
    exact Nj _ _ ⟨Np, Nd, hS.to [0] (by kernel_rfl) ⟨rfl, rfl, rfl, rfl, rfl, trivial⟩, hM⟩
   ·refine wp_exit ?_
    refine qE (qE (zd (qe ?_)))
    exact Nk _ _ ⟨M8, M7, hS.to [0] (by kernel_rfl) ⟨rfl, rfl, rfl, rfl, rfl, trivial⟩, hM⟩
 ·intro a w hI
  obtain ⟨M3, M4, hS, hM⟩ := hI
  rw [z6.j2] at hM
  refine wp_seq ?_
  obtain ⟨Nn, hM⟩ := qK hM
  obtain ⟨No, hM⟩ := qK hM
  refine q9 (vals := [some (.int .i64 M3), some (.int .i64 M5), some (.int .i64 (z8 .i64 M3 M5)), some (.int .i64 M4), some (.int .i64 (qg ((z8 .i64 M3 M5) + M4))), some (.int .i64 M3), some (.int .i64 M6), some (.int .i64 M4), some (.int .i64 M3), some (.int .i64 (z8 .i64 M4 M3)), some (.int .i64 (qg (M6 - (z8 .i64 M4 M3)))), some (.int .u32 (wr .u32 (qg (M6 - (z8 .i64 M4 M3))))), some (.agg ⟨[.int .i64 (qg ((z8 .i64 M3 M5) + M4)), .int .i64 M3, .int .u32 (wr .u32 (qg (M6 - (z8 .i64 M4 M3))))]⟩), none]) hS xF rfl ?_
  intro l w ho hcl hA hst
  refine jf hA hst ho hcl xu xG 13 [0, 1, 2, 3, 4, 5, 6, 7, 8, 9, 10, 11, 12] rfl rfl rfl rfl rfl (by exact ⟨nM rfl, nM rfl, nQ rfl (by exact qX (shl rfl rfl Nn) rfl), nM rfl, nB rfl, nM rfl, nM rfl, nM rfl, nM rfl, nQ rfl (by exact qX (shl rfl rfl No) rfl), nB rfl, nQ rfl (by exact qX (ux rfl Tryd.runUnderlying3 Tryd.runUnderlying25) rfl), nQ rfl (by exact qX (Xw ([.int .i64 (qg ((z8 .i64 M3 M5) + M4)), .int .i64 M3, .int .u32 (wr .u32 (qg (M6 - (z8 .i64 M4 M3))))]) [(0, 1), (1, 1), (2, 1)] Tryd.zeroValue77 Tryd.runUnderlying77 (by intro w; simp [Tryd.sizeOf25, Tryd.sizeOf3]) rfl rfl) rfl), trivial⟩) fun D l a w ho hcl hav hpre hm hE hk hA hst => ?_
  have hS := (Ss.mk hE hst).env2 (e' := [(4, qL Nc 0), (28, .agg ⟨[.int .i64 (qg ((z8 .i64 M3 M5) + M4)), .int .i64 M3, .int .u32 (wr .u32 (qg (M6 - (z8 .i64 M4 M3))))]⟩)]) ⟨rfl, rfl, trivial⟩
  refine qR rfl <| QX 0 ([.int .i64 (qg ((z8 .i64 M3 M5) + M4)), .int .i64 M3, .int .u32 (wr .u32 (qg (M6 - (z8 .i64 M4 M3))))]) ([.int .i64 (qg ((z8 .i64 M3 M5) + M4)), .int .i64 M3, .int .u32 (wr .u32 (qg (M6 - (z8 .i64 M4 M3))))]) hS rfl rfl Nh rfl rfl Tryd.sizeOf77 (by simp [Value.oneCell']) (Nat.le_of_ble_eq_true rfl) rfl fun w Ns Ni hS => qA ?_
  replace hst := hS.st
  obtain ⟨hcl, hmust, hav2, hA⟩ := Xy (vals' := [some (.int .i64 M3), some (.int .i64 M5), some (.int .i64 (z8 .i64 M3 M5)), some (.int .i64 M4), some (.int .i64 (qg ((z8 .i64 M3 M5) + M4))), some (.int .i64 M3), some (.int .i64 M6), some (.int .i64 M4), some (.int .i64 M3), some (.int .i64 (z8 .i64 M4 M3)), some (.int .i64 (qg (M6 - (z8 .i64 M4 M3)))), some (.int .u32 (wr .u32 (qg (M6 - (z8 .i64 M4 M3))))), some (.agg ⟨[.int .i64 (qg ((z8 .i64 M3 M5) + M4)), .int .i64 M3, .int .u32 (wr .u32 (qg (M6 - (z8 .i64 M4 M3))))]⟩), some undef]) 13 [(0, 13), (1, 13), (2, 13), (3, 13), (4, 13), (5, 13), (6, 13), (7, 13), (8, 13), (9, 13), (10, 13), (11, 13), (12, 13)] hA hcl hav hm hpre rfl rfl rfl rfl rfl
  clear hm hav
  refine yk hA hst ho hcl hmust [] rfl rfl rfl trivial fun a w hS => ?_
  replace hS := hS.env2 (e' := [(4, qL Nc 0)]) ⟨rfl, trivial⟩
  refine qe <| wp_ret ?_
  exact jl (vs := [.agg ⟨[.int .i64 (qg ((z8 .i64 M3 M5) + M4)), .int .i64 M3, .int .u32 (wr .u32 (qg (M6 - (z8 .i64 M4 M3))))]⟩]) hS rfl (by exact ⟨Kl 0 ([.int .i64 (qg ((z8 .i64 M3 M5) + M4)), .int .i64 M3, .int .u32 (wr .u32 (qg (M6 - (z8 .i64 M4 M3))))]) rfl Ni rfl rfl rfl Tryd.isAgg77 Tryd.sizeOf77, trivial⟩) (hret (qg ((z8 .i64 M3 M5) + M4)) M3 (wr .u32 (qg (M6 - (z8 .i64 M4 M3)))) _ (q8 hM) (hS.st.pick [] (by kernel_rfl)))
theorem uB {H : xT} {F : List qk} {w : World} {R : Ending → World → Prop} {kr : (Int × Int × Int) → Prop} {kp : Value → Prop} (hG : Gl H) (K : Nat) (M9 : Int)
    (hS : St w H [] F) (hm : (yP.m K M9).wp kr kp)
    (hret : ∀ (M6 : Int) (M7 : Int) (M8 : Int) (w : World), kr (M6, M7, M8) → St w H [] F → R (.returned (.agg ⟨[.int .i64 M6, .int .i64 M7, .int .u32 M8]⟩)) w) :
    Calls Tryd.prog 33 ⟨[.int .i64 M9]⟩ w R := by
 refine enter Tryd.func33 rfl Tryd.ntmps33 rfl hS fun a w hS => ?_
 have hM := hm; clear hm
 rw [yP.m] at hM
 refine qm <| QI ([.int .i64 (0 : Int), .int .i64 (0 : Int), .int .u32 (0 : Int)]) hS Tryd.zeroValue77 rfl rfl fun w Nj Ni Na hS => qA <| wp_seq <| qm <| sM hS rfl fun hS => sB hS rfl fun hS => qA <| qF hS rfl hM (fun Nh hM => ?_) (fun Nh hM => ?_)
 ·refine wp_seq ?_
  refine zM <| sO hS (Xw ([.int .i64 (285 : Int), .int .i64 (0 : Int), .int .u32 (0 : Int)]) [(0, 1), (1, 1), (2, 1)] Tryd.zeroValue77 Tryd.runUnderlying77 (by intro w; simp [Tryd.sizeOf25, Tryd.sizeOf3]) rfl rfl) rfl fun hS => QX 0 ([.int .i64 (285 : Int), .int .i64 (0 : Int), .int .u32 (0 : Int)]) ([.int .i64 (285 : Int), .int .i64 (0 : Int), .int .u32 (0 : Int)]) hS rfl rfl Na rfl rfl Tryd.sizeOf77 (by simp [Value.oneCell']) (Nat.le_of_ble_eq_true rfl) rfl fun w Nl Nc hS => qA <| wp_ret <| zk ?_
  exact jl (vs := [.agg ⟨[.int .i64 (285 : Int), .int .i64 (0 : Int), .int .u32 (0 : Int)]⟩]) hS rfl (by exact ⟨Kl 0 ([.int .i64 (285 : Int), .int .i64 (0 : Int), .int .u32 (0 : Int)]) rfl Nc rfl rfl rfl Tryd.isAgg77 Tryd.sizeOf77, trivial⟩) (hret (285 : Int) (0 : Int) (0 : Int) _ (q8 hM) (hS.st.pick [] (by kernel_rfl)))
 ·refine wp_skip ?_
  refine qe <| qm <| sM hS rfl fun hS => sB hS rfl fun hS => qI hS rfl Tryd.call51 (uC hG K (qg (M9 - (3 : Int))) (2 : Int) (hS.st.part 0 [0] (by kernel_rfl)) (qt hM) (fun M3 M4 M5 w hM  hst => qB hS.ev hst.appF rfl fun hS => ?_))
  replace hS : Ss _ _ _ H [Ni] F _ _ := hS
  refine QI ([.int .i64 (0 : Int), .int .i64 (0 : Int), .int .u32 (0 : Int)]) hS Tryd.zeroValue77 rfl rfl fun w Nk Nm Nd hS => QX 0 ([.int .i64 M3, .int .i64 M4, .int .u32 M5]) ([.int .i64 M3, .int .i64 M4, .int .u32 M5]) hS rfl rfl Nd rfl rfl Tryd.sizeOf77 (by simp [Value.oneCell']) (Nat.le_of_ble_eq_true rfl) rfl fun w Nn Nb hS => qA <| qm <| sO hS (xw rfl Tryd.runUnderlying77 rfl Tryd.sizeOf3 rfl) rfl fun hS => sO hS (x5 0 rfl Nb rfl rfl Tryd.isAgg3) rfl fun hS => sB hS rfl fun hS => sO hS (xw rfl Tryd.runUnderlying77 rfl Tryd.sizeOf3 rfl) rfl fun hS => J7 0 ([.int .i64 (qg (M3 + (257 : Int))), .int .i64 M4, .int .u32 M5]) hS rfl rfl Nb rfl rfl rfl rfl Tryd.sizeOf3 fun w No Nf hS => qA <| qm <| sO hS (uX 0 rfl Nf rfl ([.int .i64 (qg (M3 + (257 : Int))), .int .i64 M4, .int .u32 M5]) rfl rfl Tryd.isAgg77 Tryd.sizeOf77) rfl fun hS => QX 1 ([.int .i64 (qg (M3 + (257 : Int))), .int .i64 M4, .int .u32 M5]) ([.int .i64 (qg (M3 + (257 : Int))), .int .i64 M4, .int .u32 M5]) hS rfl rfl Na rfl rfl Tryd.sizeOf77 (by simp [Value.oneCell']) (Nat.le_of_ble_eq_true rfl) rfl fun w Np Ng hS => qA <| wp_ret ?_
  exact jl (vs := [.agg ⟨[.int .i64 (qg (M3 + (257 : Int))), .int .i64 M4, .int .u32 M5]⟩]) hS rfl (by exact ⟨Kl 1 ([.int .i64 (qg (M3 + (257 : Int))), .int .i64 M4, .int .u32 M5]) rfl Ng rfl rfl rfl Tryd.isAgg77 Tryd.sizeOf77, trivial⟩) (hret (qg (M3 + (257 : Int))) M4 M5 _ (q8 hM) (hS.st.pick [] (by kernel_rfl)))
theorem vP {H : xT} {F : List qk} {w : World} {R : Ending → World → Prop} {kr : (Int × (List Int)) → Prop} {kp : Value → Prop} (hG : Gl H) (K : Nat) (M3 : qp) (NJ : qv) (M4 : xV) (M5 : Nat) (Nr : qk) (Np : Option Addr) (Nq : Nat) (Ns : qk) (M7 : Option Addr) (M9 : Nat) (Nb : qk) (M8 : Option Addr) (Na : Nat) (Nc : qk) (Ng : Option Addr) (Ni : Nat) (Nd : qk) (Nh : Option Addr) (Nj : Nat) (Nf : qk) (NK : xM Nr M5 ([.int .i64 M3.Writer_.place_.at_, .slice Np M3.Writer_.bytes_.length Nq, .slice M7 M3.literals_.lengths_.length M9, .slice M8 M3.literals_.codes_.length Na, .slice Ng M3.distances_.lengths_.length Ni, .slice Nh M3.distances_.codes_.length Nj]) 70) (NM : xj 5 (ci .u8) 1 Np M3.Writer_.bytes_ Nq Ns) (Nt : xj 3 (ci .i64) 1 M7 M3.literals_.lengths_ M9 Nb) (Nu : xj 3 (ci .i64) 1 M8 M3.literals_.codes_ Na Nc) (Nv : xj 3 (ci .i64) 1 Ng M3.distances_.lengths_ Ni Nd) (Nw : xj 3 (ci .i64) 1 Nh M3.distances_.codes_ Nj Nf)
    (hS : St w H [Nr, Ns, Nb, Nc, Nd, Nf] F) (hm : (yh.m K M3 NJ M4).wp kr kp)
    (hret : ∀ (Nl : Int) (Nz : Option Addr) (NA : Nat) (M6 : (List Int)) (NH : qk) (NI : qk) (w : World), kr (Nl, M6) → (xj 5 (ci .u8) 1 Nz M6 NA NH) → (xM NI M5 ([.int .i64 Nl, .slice Nz M6.length NA, .slice M7 M3.literals_.lengths_.length M9, .slice M8 M3.literals_.codes_.length Na, .slice Ng M3.distances_.lengths_.length Ni, .slice Nh M3.distances_.codes_.length Nj]) 70) → St w H [NI, NH, Nb, Nc, Nd, Nf] F → R (.returned (.tuple ⟨[]⟩)) w) :
    Calls Tryd.prog 50 ⟨[qL M5 0, .agg ⟨[.slice M7 M3.literals_.lengths_.length M9, .slice M8 M3.literals_.codes_.length Na]⟩, .agg ⟨[.int .i64 M4.symbol_, .int .i64 M4.bits_, .int .u32 M4.more_]⟩]⟩ w R := by
 refine enter Tryd.func50 rfl Tryd.ntmps50 rfl hS fun a w hS => ?_
 have hM := hm; clear hm
 rw [yh.m] at hM
 refine qm <| bx ([.slice M7 M3.literals_.lengths_.length M9, .slice M8 M3.literals_.codes_.length Na]) hS rfl rfl rfl fun w NW NB NL hS => bx ([.int .i64 M4.symbol_, .int .i64 M4.bits_, .int .u32 M4.more_]) hS rfl rfl rfl fun w Nm NC Nk hS => qA <| qm <| sM hS rfl fun hS => sO hS (uX 1 rfl NL rfl ([.slice M7 M3.literals_.lengths_.length M9, .slice M8 M3.literals_.codes_.length Na]) rfl rfl Tryd.isAgg68 Tryd.sizeOf68) rfl fun hS => sO hS (xw rfl Tryd.runUnderlying77 rfl Tryd.sizeOf3 rfl) rfl fun hS => sO hS (x5 0 rfl Nk rfl rfl Tryd.isAgg3) rfl fun hS => qI hS rfl Tryd.call39 (yr hG K M3 M3.literals_ M4.symbol_ M5 Nr Np Nq Ns M7 M9 Nb M8 Na Nc Ng Ni Nd Nh Nj Nf NK NM Nt Nu Nv Nw (hS.st.part 6 [2, 3, 4, 5, 6, 7, 0, 1] (by kernel_rfl)) (qt hM) (fun Nx NN NP Nn ND NE w hM NR NS hst => qB hS.ev hst.appF rfl fun hS => ?_))
 replace hS : Ss _ _ _ H [NE, ND, Nb, Nc, Nd, Nf, NC, NB] F _ _ := hS
 refine qA <| q9 (vals := [some (qL M5 0), some (qL M5 0), some (qL M5 0), some (qL Nm 2), some (.int .u32 M4.more_), some (qL Nm 1), some (.int .i64 M4.bits_), none]) hS xF rfl ?_
 intro l w ho hcl hA hst
 refine jf hA hst ho hcl xu xG 7 [0, 1, 2, 3, 4, 5, 6] rfl rfl rfl rfl rfl (by exact ⟨nM rfl, nQ rfl (by exact qX (yz rfl) rfl), nQ rfl (by exact qX (xw rfl Tryd.runUnderlying70 rfl Tryd.sizeOf65 rfl) rfl), nQ rfl (by exact qX (xw rfl Tryd.runUnderlying77 rfl Tryd.sizeOf25 rfl) rfl), nQ rfl (by exact qX (x5 6 rfl Nk rfl rfl Tryd.isAgg25) rfl), nQ rfl (by exact qX (xw rfl Tryd.runUnderlying77 rfl Tryd.sizeOf3 rfl) rfl), nQ rfl (by exact qX (x5 6 rfl Nk rfl rfl Tryd.isAgg3) rfl), trivial⟩) fun D l a w ho hcl hav hpre hm hE hk hA hst => ?_
 have hS := (Ss.mk hE hst).env2 (e' := [(13, qL M5 0), (15, .int .u32 M4.more_), (17, .int .i64 M4.bits_)]) ⟨rfl, rfl, rfl, trivial⟩
 refine qR rfl <| qI hS rfl Tryd.call30 (zm hG K (qp.mk (qS.mk (qr.mk Nx) Nn) M3.literals_ M3.distances_) M4.more_ M4.bits_ M5 NE NN NP ND M7 M9 Nb M8 Na Nc Ng Ni Nd Nh Nj Nf NS NR Nt Nu Nv Nw (hS.st.part 6 [0, 1, 2, 3, 4, 5, 6, 7] (by kernel_rfl)) (qt hM) (fun NV Ny NO NQ No NF NG w hM NT NU hst => qB hS.ev hst.appF rfl fun hS => ?_))
 replace hS : Ss _ _ _ H [NG, NF, Nb, Nc, Nd, Nf, NC, NB] F _ _ := hS
 refine qA ?_
 replace hst := hS.st
 obtain ⟨hcl, hmust, hav2, hA⟩ := dn (vals' := [some (qL M5 0), some (qL M5 0), some (qL M5 0), some (qL Nm 2), some (.int .u32 M4.more_), some (qL Nm 1), some (.int .i64 M4.bits_), some (.int .i64 NV)]) 7 [(2, 7), (4, 7), (6, 7), (1, 2), (3, 4), (5, 6), (0, 1)] hA hcl hav hm hpre hk rfl rfl rfl rfl rfl rfl rfl
 clear hm hav
 refine yk hA hst ho hcl hmust [] rfl rfl rfl trivial fun a w hS => ?_
 replace hS := hS.env2 (e' := []) trivial
 exact jS (rs := []) hS rfl rfl (hret Ny NO NQ No NF NG _ (q8 hM) NT NU (hS.st.pick [0, 1, 2, 3, 4, 5] (by kernel_rfl)))
theorem vN {H : xT} {F : List qk} {w : World} {R : Ending → World → Prop} {kr : (Int × Int × Int) → Prop} {kp : Value → Prop} (hG : Gl H) (K : Nat) (M9 : Int)
    (hS : St w H [] F) (hm : (yA.m K M9).wp kr kp)
    (hret : ∀ (M6 : Int) (M7 : Int) (M8 : Int) (w : World), kr (M6, M7, M8) → St w H [] F → R (.returned (.agg ⟨[.int .i64 M6, .int .i64 M7, .int .u32 M8]⟩)) w) :
    Calls Tryd.prog 34 ⟨[.int .i64 M9]⟩ w R := by
 refine enter Tryd.func34 rfl Tryd.ntmps34 rfl hS fun a w hS => ?_
 have hM := hm; clear hm
 rw [yA.m] at hM
 refine qm <| QI ([.int .i64 (0 : Int), .int .i64 (0 : Int), .int .u32 (0 : Int)]) hS Tryd.zeroValue77 rfl rfl fun w Nd Nc Na hS => qA <| qm <| sM hS rfl fun hS => sB hS rfl fun hS => qI hS rfl Tryd.call51 (uC hG K (qg (M9 - (1 : Int))) (1 : Int) (hS.st.part 0 [0] (by kernel_rfl)) (qt hM) (fun M3 M4 M5 w hM  hst => qB hS.ev hst.appF rfl fun hS => ?_))
 replace hS : Ss _ _ _ H [Nc] F _ _ := hS
 refine QX 0 ([.int .i64 M3, .int .i64 M4, .int .u32 M5]) ([.int .i64 M3, .int .i64 M4, .int .u32 M5]) hS rfl rfl Na rfl rfl Tryd.sizeOf77 (by simp [Value.oneCell']) (Nat.le_of_ble_eq_true rfl) rfl fun w Nf Nb hS => qA <| wp_ret ?_
 exact jl (vs := [.agg ⟨[.int .i64 M3, .int .i64 M4, .int .u32 M5]⟩]) hS rfl (by exact ⟨Kl 0 ([.int .i64 M3, .int .i64 M4, .int .u32 M5]) rfl Nb rfl rfl rfl Tryd.isAgg77 Tryd.sizeOf77, trivial⟩) (hret M3 M4 M5 _ (q8 hM) (hS.st.pick [] (by kernel_rfl)))
theorem vt {H : xT} {F : List qk} {w : World} {R : Ending → World → Prop} {kr : (Int × (List Int)) → Prop} {kp : Value → Prop} (hG : Gl H) (K : Nat) (M3 : qp) (NO : qv) (M4 : Int) (M7 : Nat) (Ny : qk) (Nw : Option Addr) (Nx : Nat) (Nz : qk) (Nj : Option Addr) (Nm : Nat) (Nf : qk) (Nk : Option Addr) (Nn : Nat) (Ng : qk) (Nc : Option Addr) (Nd : Nat) (Nh : qk) (M8 : Option Addr) (Na : Nat) (Ni : qk) (NP : xM Ny M7 ([.int .i64 M3.Writer_.place_.at_, .slice Nw M3.Writer_.bytes_.length Nx, .slice Nj M3.literals_.lengths_.length Nm, .slice Nk M3.literals_.codes_.length Nn, .slice Nc M3.distances_.lengths_.length Nd, .slice M8 M3.distances_.codes_.length Na]) 70) (NR : xj 5 (ci .u8) 1 Nw M3.Writer_.bytes_ Nx Nz) (NS : xj 3 (ci .i64) 1 Nj M3.literals_.lengths_ Nm Nf) (NT : xj 3 (ci .i64) 1 Nk M3.literals_.codes_ Nn Ng) (Nr : xj 3 (ci .i64) 1 Nc M3.distances_.lengths_ Nd Nh) (Ns : xj 3 (ci .i64) 1 M8 M3.distances_.codes_ Na Ni)
    (hS : St w H [Ny, Nz, Nf, Ng, Nh, Ni] F) (hm : (z1.m K M3 NO M4).wp kr kp)
    (hret : ∀ (Nt : Int) (NG : Option Addr) (NH : Nat) (Nb : (List Int)) (NL : qk) (NM : qk) (w : World), kr (Nt, Nb) → (xj 5 (ci .u8) 1 NG Nb NH NL) → (xM NM M7 ([.int .i64 Nt, .slice NG Nb.length NH, .slice Nj M3.literals_.lengths_.length Nm, .slice Nk M3.literals_.codes_.length Nn, .slice Nc M3.distances_.lengths_.length Nd, .slice M8 M3.distances_.codes_.length Na]) 70) → St w H [NM, NL, Nf, Ng, Nh, Ni] F → R (.returned (.tuple ⟨[]⟩)) w) :
    Calls Tryd.prog 39 ⟨[qL M7 0, .agg ⟨[.slice Nc M3.distances_.lengths_.length Nd, .slice M8 M3.distances_.codes_.length Na]⟩, .int .i64 M4]⟩ w R := by
 refine enter Tryd.func39 rfl Tryd.ntmps39 rfl hS fun a w hS => ?_
 have hM := hm; clear hm
 rw [z1.m] at hM
 refine qm <| bx ([.slice Nc M3.distances_.lengths_.length Nd, .slice M8 M3.distances_.codes_.length Na]) hS rfl rfl rfl fun w Nu NI NA hS => qA <| qm <| sO hS (xw rfl Tryd.runUnderlying68 rfl Tryd.sizeOf66 rfl) rfl fun hS => sO hS (x5 0 rfl NA rfl rfl Tryd.isAgg66) rfl fun hS => sM hS rfl fun hS => ?_
 obtain ⟨ND, hM⟩ := qK hM
 refine sO hS (yu rfl rfl Tryd.runUnderlying66 Tryd.sizeOf3 (Nr.rd (i := 5) rfl) (fun _ => rfl) rfl ND) rfl fun hS => sO hS (yG rfl (Nr.rd (i := 5) rfl) (fun _ => rfl) ND rfl Tryd.isAgg3) rfl fun hS => sB hS rfl fun hS => zF (v := Value.int .i64) (x0 := (qg ((rd M3.distances_.lengths_ M4) - (1 : Int)))) hS (xA rfl) rfl fun N0 a w hz hS => ?_
 have hM := qz hz hM; clear hz
 refine qA <| xQ <| zv (fun NN a w => ∃ (M9 : Int) (Nl : Option Addr) (No : Nat) (M5 : (List Int)) (Np : qk) (Nq : qk) (M6 : Int), Ss 30 [] [(0, qL M7 0), (2, .int .i64 M4), (4, qL Nu 0), (6, .int .i64 M6)] H [Nq, Np, Nf, Ng, Nh, Ni, NI] F a w ∧ (xj 5 (ci .u8) 1 Nl M5 No Np) ∧ (xM Nq M7 ([.int .i64 M9, .slice Nl M5.length No, .slice Nj M3.literals_.lengths_.length Nm, .slice Nk M3.literals_.codes_.length Nn, .slice Nc M3.distances_.lengths_.length Nd, .slice M8 M3.distances_.codes_.length Na]) 70) ∧ (z1.l1 K M3 M4 NN M9 M5 M6).wp kr kp) K ?_ ?_ ?_
 ·exact ⟨M3.Writer_.place_.at_, Nw, Nx, M3.Writer_.bytes_, Nz, Ny, N0, hS.to [1, 2, 3, 4, 5, 6, 0] (by kernel_rfl) ⟨rfl, rfl, rfl, rfl, trivial⟩, NR, NP, hM⟩
 ·intro a w hI; obtain ⟨_, _, _, _, _, _, _, _, _, _, hM⟩ := hI; exact zu hM
 ·intro NN a w hI N3 NQ
  obtain ⟨M9, Nl, No, M5, Np, Nq, M6, hS, NC, NB, hM⟩ := hI
  rw [z1.l1] at hM
  refine wp_seq <| qm <| sM hS rfl fun hS => sB hS rfl fun hS => qA <| qF hS rfl hM (fun NU hM => ?_) (fun NU hM => ?_)
  ·refine wp_skip ?_
   refine qe <| wp_seq <| xQ ?_
   obtain ⟨NE, hM⟩ := qK hM
   obtain ⟨NV, hM⟩ := qK hM
   refine q9 (vals := [some (qL M7 0), some (qL M7 0), some (qL M7 0), some (qL Nu 1), some (.slice M8 M3.distances_.codes_.length Na), some (.int .i64 M4), some (xE M8 (Int.toNat M4 * 1)), some (.int .i64 (rd M3.distances_.codes_ M4)), some (.int .i64 M6), some (.int .i64 (xb .i64 (rd M3.distances_.codes_ M4) M6)), some (.int .i64 (xH .i64 (xb .i64 (rd M3.distances_.codes_ M4) M6) (1 : Int))), some (.int .u32 (wr .u32 (xH .i64 (xb .i64 (rd M3.distances_.codes_ M4) M6) (1 : Int)))), none]) hS xF rfl ?_
   intro l w ho hcl hA hst
   refine jf hA hst ho hcl xu xG 12 [0, 1, 2, 3, 4, 5, 6, 7, 8, 9, 10, 11] rfl rfl rfl rfl rfl (by exact ⟨nM rfl, nQ rfl (by exact qX (yz rfl) rfl), nQ rfl (by exact qX (xw rfl Tryd.runUnderlying70 rfl Tryd.sizeOf65 rfl) rfl), nQ rfl (by exact qX (xw rfl Tryd.runUnderlying68 rfl Tryd.sizeOf66 rfl) rfl), nQ rfl (by exact qX (x5 6 rfl NA rfl rfl Tryd.isAgg66) rfl), nM rfl, nQ rfl (by exact qX (yu rfl rfl Tryd.runUnderlying66 Tryd.sizeOf3 (Ns.rd (i := 5) rfl) (fun _ => rfl) rfl NE) rfl), nQ rfl (by exact qX (yG rfl (Ns.rd (i := 5) rfl) (fun _ => rfl) NE rfl Tryd.isAgg3) rfl), nM rfl, nQ rfl (by exact qX (shr rfl rfl NV) rfl), nB rfl, nQ rfl (by exact qX (ux rfl Tryd.runUnderlying3 Tryd.runUnderlying25) rfl), trivial⟩) fun D l a w ho hcl hav hpre hm hE hk hA hst => ?_
   have hS := (Ss.mk hE hst).env2 (e' := [(19, qL M7 0), (28, .int .u32 (wr .u32 (xH .i64 (xb .i64 (rd M3.distances_.codes_ M4) M6) (1 : Int))))]) ⟨rfl, rfl, trivial⟩
   refine qR rfl <| qI hS rfl Tryd.call30 (zm hG K (qp.mk (qS.mk (qr.mk M9) M5) M3.literals_ M3.distances_) (wr .u32 (xH .i64 (xb .i64 (rd M3.distances_.codes_ M4) M6) (1 : Int))) (1 : Int) M7 Nq Nl No Np Nj Nm Nf Nk Nn Ng Nc Nd Nh M8 Na Ni NB NC NS NT Nr Ns (hS.st.part 6 [0, 1, 2, 3, 4, 5, 6] (by kernel_rfl)) (qt hM) (fun N2 NF NW NX Nv NJ NK w hM NY NZ hst => qB hS.ev hst.appF rfl fun hS => ?_))
   replace hS : Ss _ _ _ H [NK, NJ, Nf, Ng, Nh, Ni, NI] F _ _ := hS
   refine qA ?_
   replace hst := hS.st
   obtain ⟨hcl, hmust, hav2, hA⟩ := dn (vals' := [some (qL M7 0), some (qL M7 0), some (qL M7 0), some (qL Nu 1), some (.slice M8 M3.distances_.codes_.length Na), some (.int .i64 M4), some (xE M8 (Int.toNat M4 * 1)), some (.int .i64 (rd M3.distances_.codes_ M4)), some (.int .i64 M6), some (.int .i64 (xb .i64 (rd M3.distances_.codes_ M4) M6)), some (.int .i64 (xH .i64 (xb .i64 (rd M3.distances_.codes_ M4) M6) (1 : Int))), some (.int .u32 (wr .u32 (xH .i64 (xb .i64 (rd M3.distances_.codes_ M4) M6) (1 : Int)))), some (.int .i64 N2)]) 12 [(2, 12), (11, 12), (1, 2), (10, 11), (0, 1), (9, 10), (7, 9), (8, 9), (6, 7), (4, 6), (5, 6), (3, 4)] hA hcl hav hm hpre hk rfl rfl rfl rfl rfl rfl rfl
   clear hm hav
   refine yk hA hst ho hcl hmust [] rfl rfl rfl trivial fun a w hS => ?_
   replace hS := hS.env2 (e' := [(0, qL M7 0), (2, .int .i64 M4), (4, qL Nu 0), (6, .int .i64 M6)]) ⟨rfl, rfl, rfl, rfl, trivial⟩
   refine zx (qe ?_)
   refine zM <| sM hS rfl fun hS => sB hS rfl fun hS => zF (v := Value.int .i64) (x0 := (qg (M6 - (1 : Int)))) hS (xA rfl) rfl fun N1 a w hz hS => ?_
   have hM := qz hz hM; clear hz
   refine zo <| qe ?_
   exact NQ _ _ ⟨NF, NW, NX, Nv, NJ, NK, N1, hS.to [0, 1, 2, 3, 4, 5, 6] (by kernel_rfl) ⟨rfl, rfl, rfl, rfl, trivial⟩, NY, NZ, hM⟩
  ·refine wp_exit ?_
   refine qE (qE (zd ?_))
   exact jS (rs := []) hS rfl rfl (hret M9 Nl No M5 Np Nq _ (q8 hM) NC NB (hS.st.pick [0, 1, 2, 3, 4, 5] (by kernel_rfl)))
theorem vQ {H : xT} {F : List qk} {w : World} {R : Ending → World → Prop} {kr : (Int × (List Int)) → Prop} {kp : Value → Prop} (hG : Gl H) (K : Nat) (M3 : qp) (NJ : qv) (M4 : xV) (M5 : Nat) (Nr : qk) (Np : Option Addr) (Nq : Nat) (Ns : qk) (Ng : Option Addr) (Ni : Nat) (Nb : qk) (Nh : Option Addr) (Nj : Nat) (Nc : qk) (M7 : Option Addr) (M9 : Nat) (Nd : qk) (M8 : Option Addr) (Na : Nat) (Nf : qk) (NK : xM Nr M5 ([.int .i64 M3.Writer_.place_.at_, .slice Np M3.Writer_.bytes_.length Nq, .slice Ng M3.literals_.lengths_.length Ni, .slice Nh M3.literals_.codes_.length Nj, .slice M7 M3.distances_.lengths_.length M9, .slice M8 M3.distances_.codes_.length Na]) 70) (NM : xj 5 (ci .u8) 1 Np M3.Writer_.bytes_ Nq Ns) (Nt : xj 3 (ci .i64) 1 Ng M3.literals_.lengths_ Ni Nb) (Nu : xj 3 (ci .i64) 1 Nh M3.literals_.codes_ Nj Nc) (Nv : xj 3 (ci .i64) 1 M7 M3.distances_.lengths_ M9 Nd) (Nw : xj 3 (ci .i64) 1 M8 M3.distances_.codes_ Na Nf)
    (hS : St w H [Nr, Ns, Nb, Nc, Nd, Nf] F) (hm : (yi.m K M3 NJ M4).wp kr kp)
    (hret : ∀ (Nl : Int) (Nz : Option Addr) (NA : Nat) (M6 : (List Int)) (NH : qk) (NI : qk) (w : World), kr (Nl, M6) → (xj 5 (ci .u8) 1 Nz M6 NA NH) → (xM NI M5 ([.int .i64 Nl, .slice Nz M6.length NA, .slice Ng M3.literals_.lengths_.length Ni, .slice Nh M3.literals_.codes_.length Nj, .slice M7 M3.distances_.lengths_.length M9, .slice M8 M3.distances_.codes_.length Na]) 70) → St w H [NI, NH, Nb, Nc, Nd, Nf] F → R (.returned (.tuple ⟨[]⟩)) w) :
    Calls Tryd.prog 50 ⟨[qL M5 0, .agg ⟨[.slice M7 M3.distances_.lengths_.length M9, .slice M8 M3.distances_.codes_.length Na]⟩, .agg ⟨[.int .i64 M4.symbol_, .int .i64 M4.bits_, .int .u32 M4.more_]⟩]⟩ w R := by
 refine enter Tryd.func50 rfl Tryd.ntmps50 rfl hS fun a w hS => ?_
 have hM := hm; clear hm
 rw [yi.m] at hM
 refine qm <| bx ([.slice M7 M3.distances_.lengths_.length M9, .slice M8 M3.distances_.codes_.length Na]) hS rfl rfl rfl fun w NW NB NL hS => bx ([.int .i64 M4.symbol_, .int .i64 M4.bits_, .int .u32 M4.more_]) hS rfl rfl rfl fun w Nm NC Nk hS => qA <| qm <| sM hS rfl fun hS => sO hS (uX 1 rfl NL rfl ([.slice M7 M3.distances_.lengths_.length M9, .slice M8 M3.distances_.codes_.length Na]) rfl rfl Tryd.isAgg68 Tryd.sizeOf68) rfl fun hS => sO hS (xw rfl Tryd.runUnderlying77 rfl Tryd.sizeOf3 rfl) rfl fun hS => sO hS (x5 0 rfl Nk rfl rfl Tryd.isAgg3) rfl fun hS => qI hS rfl Tryd.call39 (vt hG K M3 M3.distances_ M4.symbol_ M5 Nr Np Nq Ns Ng Ni Nb Nh Nj Nc M7 M9 Nd M8 Na Nf NK NM Nt Nu Nv Nw (hS.st.part 6 [2, 3, 4, 5, 6, 7, 0, 1] (by kernel_rfl)) (qt hM) (fun Nx NN NP Nn ND NE w hM NR NS hst => qB hS.ev hst.appF rfl fun hS => ?_))
 replace hS : Ss _ _ _ H [NE, ND, Nb, Nc, Nd, Nf, NC, NB] F _ _ := hS
 refine qA <| q9 (vals := [some (qL M5 0), some (qL M5 0), some (qL M5 0), some (qL Nm 2), some (.int .u32 M4.more_), some (qL Nm 1), some (.int .i64 M4.bits_), none]) hS xF rfl ?_
 intro l w ho hcl hA hst
 refine jf hA hst ho hcl xu xG 7 [0, 1, 2, 3, 4, 5, 6] rfl rfl rfl rfl rfl (by exact ⟨nM rfl, nQ rfl (by exact qX (yz rfl) rfl), nQ rfl (by exact qX (xw rfl Tryd.runUnderlying70 rfl Tryd.sizeOf65 rfl) rfl), nQ rfl (by exact qX (xw rfl Tryd.runUnderlying77 rfl Tryd.sizeOf25 rfl) rfl), nQ rfl (by exact qX (x5 6 rfl Nk rfl rfl Tryd.isAgg25) rfl), nQ rfl (by exact qX (xw rfl Tryd.runUnderlying77 rfl Tryd.sizeOf3 rfl) rfl), nQ rfl (by exact qX (x5 6 rfl Nk rfl rfl Tryd.isAgg3) rfl), trivial⟩) fun D l a w ho hcl hav hpre hm hE hk hA hst => ?_
 have hS := (Ss.mk hE hst).env2 (e' := [(13, qL M5 0), (15, .int .u32 M4.more_), (17, .int .i64 M4.bits_)]) ⟨rfl, rfl, rfl, trivial⟩
 refine qR rfl <| qI hS rfl Tryd.call30 (zm hG K (qp.mk (qS.mk (qr.mk Nx) Nn) M3.literals_ M3.distances_) M4.more_ M4.bits_ M5 NE NN NP ND Ng Ni Nb Nh Nj Nc M7 M9 Nd M8 Na Nf NS NR Nt Nu Nv Nw (hS.st.part 6 [0, 1, 2, 3, 4, 5, 6, 7] (by kernel_rfl)) (qt hM) (fun NV Ny NO NQ No NF NG w hM NT NU hst => qB hS.ev hst.appF rfl fun hS => ?_))
 replace hS : Ss _ _ _ H [NG, NF, Nb, Nc, Nd, Nf, NC, NB] F _ _ := hS
 refine qA ?_
 replace hst := hS.st
 obtain ⟨hcl, hmust, hav2, hA⟩ := dn (vals' := [some (qL M5 0), some (qL M5 0), some (qL M5 0), some (qL Nm 2), some (.int .u32 M4.more_), some (qL Nm 1), some (.int .i64 M4.bits_), some (.int .i64 NV)]) 7 [(2, 7), (4, 7), (6, 7), (1, 2), (3, 4), (5, 6), (0, 1)] hA hcl hav hm hpre hk rfl rfl rfl rfl rfl rfl rfl
 clear hm hav
 refine yk hA hst ho hcl hmust [] rfl rfl rfl trivial fun a w hS => ?_
 replace hS := hS.env2 (e' := []) trivial
 exact jS (rs := []) hS rfl rfl (hret Ny NO NQ No NF NG _ (q8 hM) NT NU (hS.st.pick [0, 1, 2, 3, 4, 5] (by kernel_rfl)))
end Go.TrydS

