/- Printed by a program of mine: each Go function answers what its model answers; conditions: what each theorem asks of memory. -/
import Derived.Test.YtkphnjbmheoifaaP2xbflgl
set_option linter.unusedVariables false
set_option linter.unusedSimpArgs false
set_option maxRecDepth 100000
namespace Go.TryS
open Go Go.Sl Go.Mo Go.Proofs
attribute [local irreducible] Res.wp
theorem mortiselaw06_live_c {H : Imm} {F : List Frag} {w : World} {R : Ending → World → Prop} {kr : Bool → Prop} {kp : Value → Prop} (hG : Gl H) (K : Nat)
    (hS : St w H [] F) (hm : (mortiselaw06_live.m K).wp kr kp)
    (hret : ∀ (x4545 : Bool) (w : World), kr x4545 → St w H [] F → R (.returned (.bool x4545)) w)
    (hpan : ∀ v w, kp v → St w H [] F → R (.panicked [⟨v, false, false⟩]) w) :
    Calls Try.prog 14 ⟨[]⟩ w R := by
 refine enter Try.func14 rfl Try.ntmps14 rfl hS fun a w hS => ?_
 have hM := hm; clear hm
 rw [mortiselaw06_live.m] at hM
 refine wp_seq <| wp_region_list <| st1 hS (asg rfl) rfl fun a w hS => wpList_nil <| then_n <| wp_seq <| wp_region_list <| bsl (g := (ci .i64)) ([(2 : Int), (1 : Int), (3 : Int), (3 : Int)] : List Int) [.int .i64 (2 : Int), .int .i64 (1 : Int), .int .i64 (3 : Int), .int .i64 (3 : Int)] hS Try.runUnderlying22 Try.sizeOf3 X.el3 rfl rfl rfl (by simp [Value.cells]) rfl rfl rfl rfl rfl fun w A442 c443 f444 hV445 hS => s_call hS rfl Try.call9 (huff_Codes_c hG K ([(2 : Int), (1 : Int), (3 : Int), (3 : Int)] : List Int) A442 c443 (hV445.rdF (i := 0) rfl) (hV445.cap (fun _ => rfl) rfl) (hS.st.part 0 [0] (by kernel_rfl)) (wp_bind hM) (fun A446 c447 x448 f449 x450 w hM h451 hst => s_back hS.ev hst.appF rfl fun hS => ?_))
 replace hS : Ss _ _ _ H [f449, f444] F _ _ := hS
 refine st1 hS (mv rfl) rfl fun a w hS => st1 hS (ex rfl rfl) rfl fun a w hS => st1 hS (ex rfl rfl) rfl fun a w hS => st1 hS (asg rfl) rfl fun a w hS => st1 hS (asg rfl) rfl fun a w hS => wpList_nil <| then_n <| wp_seq <| wp_region_list <| bsl (g := (ci .i64)) ([(2 : Int), (1 : Int), (3 : Int), (3 : Int)] : List Int) [.int .i64 (2 : Int), .int .i64 (1 : Int), .int .i64 (3 : Int), .int .i64 (3 : Int)] hS Try.runUnderlying22 Try.sizeOf3 X.el3 rfl rfl rfl (by simp [Value.cells]) rfl rfl rfl rfl rfl fun w A452 c453 f454 hV455 hS => s_call hS rfl Try.call15 (huff_New_c hG K ([(2 : Int), (1 : Int), (3 : Int), (3 : Int)] : List Int) A452 c453 (hV455.rdF (i := 0) rfl) (hV455.cap (fun _ => rfl) rfl) (hS.st.part 0 [0, 1, 2] (by kernel_rfl)) (wp_bind hM) (fun A618 x619 f620 x621 w hM h622 hst => s_back hS.ev hst.appF rfl fun hS => ?_))
 replace hS : Ss _ _ _ H [f620, f454, f449, f444] F _ _ := hS
 refine st1 hS (mv rfl) rfl fun a w hS => st1 hS (ex rfl rfl) rfl fun a w hS => st1 hS (ex rfl rfl) rfl fun a w hS => st1 hS (asg rfl) rfl fun a w hS => st1 hS (asg rfl) rfl fun a w hS => wpList_nil <| then_n <| wp_seq <| wp_region_list <| bsl (g := (ci .i64)) ([(1 : Int), (1 : Int), (2 : Int), (4 : Int)] : List Int) [.int .i64 (1 : Int), .int .i64 (1 : Int), .int .i64 (2 : Int), .int .i64 (4 : Int)] hS Try.runUnderlying22 Try.sizeOf3 X.el3 rfl rfl rfl (by simp [Value.cells]) rfl rfl rfl rfl rfl fun w A623 c624 f625 hV626 hS => s_call hS rfl Try.call20 (huff_Lengths_c hG K ([(1 : Int), (1 : Int), (2 : Int), (4 : Int)] : List Int) (15 : Int) A623 c624 (hV626.rdF (i := 0) rfl) (hV626.cap (fun _ => rfl) rfl) (hS.st.part 0 [0, 1, 2, 3, 4] (by kernel_rfl)) (wp_bind hM) (fun A4360 c4361 x4362 f4363 x4364 w hM h4365 hst => s_back hS.ev hst.appF rfl fun hS => ?_) (fun v w hk hst => s_pan (then_pan (⟨hS.ev.defs, hpan _ _ hk hst.appF.frame⟩))))
 replace hS : Ss _ _ _ H [f4363, f625, f620, f454, f449, f444] F _ _ := hS
 refine st1 hS (mv rfl) rfl fun a w hS => st1 hS (ex rfl rfl) rfl fun a w hS => st1 hS (ex rfl rfl) rfl fun a w hS => st1 hS (asg rfl) rfl fun a w hS => st1 hS (asg rfl) rfl fun a w hS => wpList_nil <| then_n <| wp_seq <| wp_region_list <| s_call hS rfl Try.call16 (bits_New_c hG K ([5] : List UInt8) (hS.st.part 0 [0, 1, 2, 3, 4, 5] (by kernel_rfl)) (wp_bind hM) (fun b4373 f4374 w hM h4375 hst => s_back hS.ev hst.appF rfl fun hS => ?_))
 replace hS : Ss _ _ _ H [f4374, f4363, f625, f620, f454, f449, f444] F _ _ := hS
 refine st1 hS (asg rfl) rfl fun a w hS => wpList_nil <| then_n <| wp_seq <| wp_seq <| wp_region_list <| st1 hS (mv rfl) rfl fun a w hS => st1 hS (eqNilO rfl rfl Try.runUnderlying30 h622) rfl fun a w hS => st1 hS (mv rfl) rfl fun a w hS => g_op 2 false 30 (b := x619.isNone) (r := false) hS rfl rfl rfl rfl rfl rfl rfl (fun hb a w hS K hK => ?_) rfl fun a w hS => ?_
 ·refine st1g hS rfl rfl rfl hb (mv rfl) rfl fun a w hS => ?_
  refine st1g hS rfl rfl rfl hb (eqNil rfl rfl Try.runUnderlying33) rfl fun a w hS => ?_
  exact wpList_nil (hK _ _ (hS.up 2 rfl rfl))
 refine wpList_nil <| then_n <| s_cond hS rfl hM (fun hb4376 hM => ?_) (fun hb4376 hM => ?_)
 ·refine wp_seq ?_
  refine wp_region_list <| st1 hS (asg rfl) rfl fun a w hS => wpList_nil <| then_n <| wp_ret <| then_ret ?_
  exact s_ret (rs := [0]) hS rfl rfl (hret false w (wp_ok hM) (hS.st.pick [] (by kernel_rfl)))
 ·obtain ⟨x4377, ho4378, hM⟩ := wp_unw hM
  obtain ⟨b4379, hA, hO4387⟩ := h622.get ho4378
  obtain ⟨f4380, A4383, c4384, f4385, hF, hB4381, hl4382, hV4386⟩ := hO4387
  subst hA; subst hF
  replace hS := hS.front [3, 0, 1, 2, 4, 5, 6] (by kernel_rfl)
  replace hS := hS.splitF
  refine wp_skip <| then_n <| wp_seq <| wp_region_list <| st1 hS (mv rfl) rfl fun a w hS => st1 hS (mv rfl) rfl fun a w hS => s_call hS rfl Try.call17 (huff_Table_Next_c hG K x4377 (T_bits_Reader.mk (T_bits_place.mk (0 : Int)) ([5] : List UInt8)) b4379 f4380 A4383 c4384 f4385 b4373 f4374 hB4381 hl4382 hV4386 h4375 (hS.st.part 3 [0, 1, 2, 3, 4, 5, 6, 7] (by kernel_rfl)) (wp_bind hM) (fun x4509 x4510 at_4511 f4512 w hM h4513 hst => s_back hS.ev hst.appF rfl fun hS => ?_))
  replace hS : Ss _ _ _ H [f4512, f4380, f4385, f4363, f625, f454, f449, f444] F _ _ := hS
  refine st1 hS (mv rfl) rfl fun a w hS => st1 hS (ex rfl rfl) rfl fun a w hS => st1 hS (ex rfl rfl) rfl fun a w hS => st1 hS (asg rfl) rfl fun a w hS => st1 hS (asg rfl) rfl fun a w hS => wpList_nil <| then_n <| wp_seq <| wp_region_list <| st1 hS (mv rfl) rfl fun a w hS => st1 hS (mv rfl) rfl fun a w hS => s_call hS rfl Try.call17 (huff_Table_Next_c hG K x4377 (T_bits_Reader.mk (T_bits_place.mk at_4511) ([5] : List UInt8)) b4379 f4380 A4383 c4384 f4385 b4373 f4512 hB4381 hl4382 hV4386 h4513 (hS.st.part 3 [1, 2, 0, 3, 4, 5, 6, 7] (by kernel_rfl)) (wp_bind hM) (fun x4514 x4515 at_4516 f4517 w hM h4518 hst => s_back hS.ev hst.appF rfl fun hS => ?_))
  replace hS : Ss _ _ _ H [f4517, f4380, f4385, f4363, f625, f454, f449, f444] F _ _ := hS
  refine st1 hS (mv rfl) rfl fun a w hS => st1 hS (ex rfl rfl) rfl fun a w hS => st1 hS (ex rfl rfl) rfl fun a w hS => st1 hS (asg rfl) rfl fun a w hS => st1 hS (asg rfl) rfl fun a w hS => wpList_nil <| then_n <| wp_seq <| wp_region_list <| st1 hS (mv rfl) rfl fun a w hS => bsl (g := (ci .i64)) ([(2 : Int), (0 : Int), (6 : Int), (7 : Int)] : List Int) [.int .i64 (2 : Int), .int .i64 (0 : Int), .int .i64 (6 : Int), .int .i64 (7 : Int)] hS Try.runUnderlying22 Try.sizeOf3 X.el3 rfl rfl rfl (by simp [Value.cells]) rfl rfl rfl rfl rfl fun w A4519 c4520 f4521 hV4522 hS => s_call hS rfl Try.call11 (mortiseref06_SameInts_c hG K x448 ([(2 : Int), (0 : Int), (6 : Int), (7 : Int)] : List Int) A446 c447 A4519 c4520 (h451.rdF (i := 7) rfl) (h451.cap (fun _ => rfl) rfl) (hV4522.rdF (i := 0) rfl) (hV4522.cap (fun _ => rfl) rfl) (hS.st.part 0 [0, 1, 2, 3, 4, 5, 6, 7, 8] (by kernel_rfl)) (wp_bind hM) (fun x4523 w hM  hst => s_back hS.ev hst.appF rfl fun hS => ?_))
  replace hS : Ss _ _ _ H [f4521, f4517, f4380, f4385, f4363, f625, f454, f449, f444] F _ _ := hS
  refine st1 hS (mv rfl) rfl fun a w hS => g_op 2 true 49 (b := x4523) (r := (x450 == (0 : Int))) hS rfl rfl rfl rfl rfl rfl rfl (fun hb a w hS K hK => ?_) rfl fun a w hS => ?_
  ·refine st1g hS rfl rfl rfl hb (mv rfl) rfl fun a w hS => ?_
   refine st1g hS rfl rfl rfl hb (bin rfl rfl rfl) rfl fun a w hS => ?_
   exact wpList_nil (hK _ _ (hS.up 2 rfl rfl))
  refine st1 hS (mv rfl) rfl fun a w hS => g_op 2 true 53 (b := (x4523 && (x450 == (0 : Int)))) (r := (x621 == (0 : Int))) hS rfl rfl rfl rfl rfl rfl rfl (fun hb a w hS K hK => ?_) rfl fun a w hS => ?_
  ·refine st1g hS rfl rfl rfl hb (mv rfl) rfl fun a w hS => ?_
   refine st1g hS rfl rfl rfl hb (bin rfl rfl rfl) rfl fun a w hS => ?_
   exact wpList_nil (hK _ _ (hS.up 2 rfl rfl))
  refine st1 hS (mv rfl) rfl fun a w hS => g_op 2 true 57 (b := ((x4523 && (x450 == (0 : Int))) && (x621 == (0 : Int)))) (r := (x4364 == (0 : Int))) hS rfl rfl rfl rfl rfl rfl rfl (fun hb a w hS K hK => ?_) rfl fun a w hS => ?_
  ·refine st1g hS rfl rfl rfl hb (mv rfl) rfl fun a w hS => ?_
   refine st1g hS rfl rfl rfl hb (bin rfl rfl rfl) rfl fun a w hS => ?_
   exact wpList_nil (hK _ _ (hS.up 2 rfl rfl))
  refine st1 hS (mv rfl) rfl fun a w hS => g_op 3 true 61 (b := (((x4523 && (x450 == (0 : Int))) && (x621 == (0 : Int))) && (x4364 == (0 : Int)))) (r := ((x4362.length : Int) == (4 : Int))) hS rfl rfl rfl rfl rfl rfl rfl (fun hb a w hS K hK => ?_) rfl fun a w hS => ?_
  ·refine st1g hS rfl rfl rfl hb (mv rfl) rfl fun a w hS => ?_
   refine st1g hS rfl rfl rfl hb (lenV rfl Try.runUnderlying22) rfl fun a w hS => st1g hS rfl rfl rfl hb (bin rfl rfl rfl) rfl fun a w hS => ?_
   exact wpList_nil (hK _ _ (hS.up 3 rfl rfl))
  refine st1 hS (mv rfl) rfl fun a w hS => ?_
  obtain ⟨hk4526, hM⟩ := wp_chk hM
  refine g_op 4 true 66 (b := ((((x4523 && (x450 == (0 : Int))) && (x621 == (0 : Int))) && (x4364 == (0 : Int))) && ((x4362.length : Int) == (4 : Int)))) (r := ((rd x4362 (3 : Int)) == (1 : Int))) hS rfl rfl rfl rfl rfl rfl rfl (fun hb a w hS K hK => ?_) rfl fun a w hS => ?_
  ·refine st1g hS rfl rfl rfl hb (mv rfl) rfl fun a w hS => ?_
   have hk4525 := imp_of hk4526 hb
   refine st1g hS rfl rfl rfl hb (ixV rfl rfl Try.runUnderlying22 Try.sizeOf3 (h4365.rd (i := 4) rfl) (fun _ => rfl) rfl hk4525) rfl fun a w hS => st1g hS rfl rfl rfl hb (ldV0 rfl (h4365.rd (i := 4) rfl) (fun _ => rfl) hk4525 rfl Try.isAgg3) rfl fun a w hS => st1g hS rfl rfl rfl hb (bin rfl rfl rfl) rfl fun a w hS => ?_
   exact wpList_nil (hK _ _ (hS.up 4 rfl rfl))
  refine st1 hS (mv rfl) rfl fun a w hS => ?_
  obtain ⟨hk4529, hM⟩ := wp_chk hM
  refine g_op 4 true 72 (b := (((((x4523 && (x450 == (0 : Int))) && (x621 == (0 : Int))) && (x4364 == (0 : Int))) && ((x4362.length : Int) == (4 : Int))) && ((rd x4362 (3 : Int)) == (1 : Int)))) (r := ((rd x4362 (2 : Int)) == (2 : Int))) hS rfl rfl rfl rfl rfl rfl rfl (fun hb a w hS K hK => ?_) rfl fun a w hS => ?_
  ·refine st1g hS rfl rfl rfl hb (mv rfl) rfl fun a w hS => ?_
   have hk4528 := imp_of hk4529 hb
   refine st1g hS rfl rfl rfl hb (ixV rfl rfl Try.runUnderlying22 Try.sizeOf3 (h4365.rd (i := 4) rfl) (fun _ => rfl) rfl hk4528) rfl fun a w hS => st1g hS rfl rfl rfl hb (ldV0 rfl (h4365.rd (i := 4) rfl) (fun _ => rfl) hk4528 rfl Try.isAgg3) rfl fun a w hS => st1g hS rfl rfl rfl hb (bin rfl rfl rfl) rfl fun a w hS => ?_
   exact wpList_nil (hK _ _ (hS.up 4 rfl rfl))
  refine st1 hS (mv rfl) rfl fun a w hS => seg_cutJ (fun a w => ∃ (v4536 : Bool), Ss 104 [] [(7, ptr b4373 0), (8, .int .i64 x4509), (9, .int .i64 x4510), (10, .int .i64 x4514), (11, .int .i64 x4515), (82, .bool v4536)] H [f4517] F a w ∧ (mortiselaw06_live.j1 K x4509 x4510 x4514 x4515 at_4516 v4536).wp kr kp) 4 (fun J4537 hJ4537 => ?_) ?_
  ·refine ifB (b := ((((((x4523 && (x450 == (0 : Int))) && (x621 == (0 : Int))) && (x4364 == (0 : Int))) && ((x4362.length : Int) == (4 : Int))) && ((rd x4362 (3 : Int)) == (1 : Int))) && ((rd x4362 (2 : Int)) == (2 : Int)))) hM (fun hb4530 hM => ?_) (fun hb4530 hM => ?_)
   ·replace hS := hS.re 77 (v := .bool true) rfl (congrArg Value.bool hb4530)
    replace hS := hS.re 78 (v := .bool true) rfl (congrArg Value.bool hb4530)
    refine unguard hS rfl rfl rfl rfl <| bsl (g := (ci .i64)) ([(1 : Int), (1 : Int), (1 : Int)] : List Int) [.int .i64 (1 : Int), .int .i64 (1 : Int), .int .i64 (1 : Int)] hS Try.runUnderlying22 Try.sizeOf3 X.el3 rfl rfl rfl (by simp [Value.cells]) rfl rfl rfl rfl rfl fun w A4531 c4532 f4533 hV4534 hS => unguard hS rfl rfl rfl rfl <| s_call hS rfl Try.call12 (huff_Check_c hG K ([(1 : Int), (1 : Int), (1 : Int)] : List Int) A4531 c4532 (hV4534.rdF (i := 0) rfl) (hV4534.cap (fun _ => rfl) rfl) (hS.st.part 0 [0, 1, 2, 3, 4, 5, 6, 7, 8, 9] (by kernel_rfl)) (wp_bind hM) (fun x4535 w hM  hst => s_back hS.ev hst.appF rfl fun hS => ?_))
    replace hS : Ss _ _ _ H [f4533, f4521, f4517, f4380, f4385, f4363, f625, f454, f449, f444] F _ _ := hS
    refine st1g hS rfl rfl rfl rfl (bin rfl rfl rfl) rfl fun a w hS => st1 hS (pk rfl rfl rfl) rfl fun a w hS => wpList_nil <| then_n ?_
    exact hJ4537 _ _ ⟨(x4535 == (3 : Int)), hS.to [2] (by kernel_rfl) ⟨rfl, rfl, rfl, rfl, rfl, rfl, trivial⟩, hM⟩
   ·replace hS := hS.re 77 (v := .bool false) rfl (congrArg Value.bool hb4530)
    replace hS := hS.re 78 (v := .bool false) rfl (congrArg Value.bool hb4530)
    refine skips 3 hS rfl fun a w hS => st1 hS (pk rfl rfl rfl) rfl fun a w hS => wpList_nil <| then_n ?_
    exact hJ4537 _ _ ⟨false, hS.to [1] (by kernel_rfl) ⟨rfl, rfl, rfl, rfl, rfl, rfl, trivial⟩, hM⟩
  ·intro a w hI
   obtain ⟨v4536, hS, hM⟩ := hI
   rw [mortiselaw06_live.j1] at hM
   refine st1 hS (mv rfl) rfl fun a w hS => g_op 2 true 83 (b := v4536) (r := (x4509 == (0 : Int))) hS rfl rfl rfl rfl rfl rfl rfl (fun hb a w hS K hK => ?_) rfl fun a w hS => ?_
   ·refine st1g hS rfl rfl rfl hb (mv rfl) rfl fun a w hS => ?_
    refine st1g hS rfl rfl rfl hb (bin rfl rfl rfl) rfl fun a w hS => ?_
    exact wpList_nil (hK _ _ (hS.up 2 rfl rfl))
   refine st1 hS (mv rfl) rfl fun a w hS => g_op 2 true 87 (b := (v4536 && (x4509 == (0 : Int)))) (r := (x4510 == (0 : Int))) hS rfl rfl rfl rfl rfl rfl rfl (fun hb a w hS K hK => ?_) rfl fun a w hS => ?_
   ·refine st1g hS rfl rfl rfl hb (mv rfl) rfl fun a w hS => ?_
    refine st1g hS rfl rfl rfl hb (bin rfl rfl rfl) rfl fun a w hS => ?_
    exact wpList_nil (hK _ _ (hS.up 2 rfl rfl))
   refine st1 hS (mv rfl) rfl fun a w hS => g_op 2 true 91 (b := ((v4536 && (x4509 == (0 : Int))) && (x4510 == (0 : Int)))) (r := (x4514 == (0 : Int))) hS rfl rfl rfl rfl rfl rfl rfl (fun hb a w hS K hK => ?_) rfl fun a w hS => ?_
   ·refine st1g hS rfl rfl rfl hb (mv rfl) rfl fun a w hS => ?_
    refine st1g hS rfl rfl rfl hb (bin rfl rfl rfl) rfl fun a w hS => ?_
    exact wpList_nil (hK _ _ (hS.up 2 rfl rfl))
   refine st1 hS (mv rfl) rfl fun a w hS => g_op 2 true 95 (b := (((v4536 && (x4509 == (0 : Int))) && (x4510 == (0 : Int))) && (x4514 == (0 : Int)))) (r := (x4515 == (0 : Int))) hS rfl rfl rfl rfl rfl rfl rfl (fun hb a w hS K hK => ?_) rfl fun a w hS => ?_
   ·refine st1g hS rfl rfl rfl hb (mv rfl) rfl fun a w hS => ?_
    refine st1g hS rfl rfl rfl hb (bin rfl rfl rfl) rfl fun a w hS => ?_
    exact wpList_nil (hK _ _ (hS.up 2 rfl rfl))
   refine st1 hS (mv rfl) rfl fun a w hS => seg_cutJ (fun a w => ∃ (v4543 : Bool), Ss 104 [] [(103, .bool v4543)] H [] F a w ∧ (mortiselaw06_live.j2 K v4543).wp kr kp) 4 (fun J4544 hJ4544 => ?_) ?_
   ·refine ifB (b := ((((v4536 && (x4509 == (0 : Int))) && (x4510 == (0 : Int))) && (x4514 == (0 : Int))) && (x4515 == (0 : Int)))) hM (fun hb4538 hM => ?_) (fun hb4538 hM => ?_)
    ·replace hS := hS.re 98 (v := .bool true) rfl (congrArg Value.bool hb4538)
     replace hS := hS.re 99 (v := .bool true) rfl (congrArg Value.bool hb4538)
     refine st1g hS rfl rfl rfl rfl (mv rfl) rfl fun a w hS => unguard hS rfl rfl rfl rfl <| s_call hS rfl Try.call19 (bits_Reader_At_c hG K (T_bits_Reader.mk (T_bits_place.mk at_4516) ([5] : List UInt8)) b4373 f4517 h4518 (hS.st.part 1 [0] (by kernel_rfl)) (wp_bind hM) (fun  w hM  hst => s_back hS.ev hst.appF rfl fun hS => ?_))
     replace hS : Ss _ _ _ H [f4517] F _ _ := hS
     refine st1g hS rfl rfl rfl rfl (bin rfl rfl rfl) rfl fun a w hS => st1 hS (pk rfl rfl rfl) rfl fun a w hS => wpList_nil <| then_n ?_
     exact hJ4544 _ _ ⟨(at_4516 == (4 : Int)), hS.to [] (by kernel_rfl) ⟨rfl, trivial⟩, hM⟩
    ·replace hS := hS.re 98 (v := .bool false) rfl (congrArg Value.bool hb4538)
     replace hS := hS.re 99 (v := .bool false) rfl (congrArg Value.bool hb4538)
     refine skips 3 hS rfl fun a w hS => st1 hS (pk rfl rfl rfl) rfl fun a w hS => wpList_nil <| then_n ?_
     exact hJ4544 _ _ ⟨false, hS.to [] (by kernel_rfl) ⟨rfl, trivial⟩, hM⟩
   ·intro a w hI
    obtain ⟨v4543, hS, hM⟩ := hI
    rw [mortiselaw06_live.j2] at hM
    refine st1 hS (asg rfl) rfl fun a w hS => wpList_nil <| then_n <| wp_ret ?_
    exact s_ret (rs := [0]) hS rfl rfl (hret v4543 w (wp_ok hM) (hS.st.pick [] (by kernel_rfl)))

theorem mortiselaw06_HuffCodes_c {H : Imm} {F : List Frag} {w : World} {R : Ending → World → Prop} {kr : Bool → Prop} {kp : Value → Prop} (hG : Gl H) (K : Nat) (l_1 : List Int) (A2 : Option Addr) (c3 : Nat) (hr4 : Rdl H [] F (ci .i64) A2 l_1) (hc5 : l_1.length ≤ c3)
    (hS : St w H [] F) (hm : (mortiselaw06_HuffCodes.m K l_1).wp kr kp)
    (hret : ∀ (x4549 : Bool) (w : World), kr x4549 → St w H [] F → R (.returned (.bool x4549)) w)
    (hpan : ∀ v w, kp v → St w H [] F → R (.panicked [⟨v, false, false⟩]) w) :
    Calls Try.prog 3 ⟨[.slice A2 l_1.length c3]⟩ w R := by
 refine enter Try.func3 rfl Try.ntmps3 rfl hS fun a w hS => ?_
 have hM := hm; clear hm
 rw [mortiselaw06_HuffCodes.m] at hM
 refine wp_seq <| wp_region_list <| st1 hS (asg rfl) rfl fun a w hS => wpList_nil <| then_n <| wp_seq <| wp_region_list <| st1 hS (asg rfl) rfl fun a w hS => ?_
 obtain ⟨f6, hV7, hS⟩ := hS.nilV 3 (ci .i64) 1
 refine wpList_nil <| then_n <| wp_seq <| wp_region_list <| st1 hS (mv rfl) rfl fun a w hS => st1 hS (mv rfl) rfl fun a w hS => ?_
 obtain ⟨hk8, hM⟩ := wp_chk hM
 refine apV (ys := l_1) 0 hS rfl rfl hV7 rfl hr4.wk Try.runUnderlying22 Try.runUnderlying22 X.el3 (fun _ => rfl) rfl one_t3 hk8 rfl fun zs13 w A9 c10 f11 hz hV12 hS => ?_
 have hM := lt_to hz hM; clear hz
 refine st1 hS (asg rfl) rfl fun a w hS => wpList_nil <| then_n <| wp_seq <| wp_region_list <| st1 hS (mv rfl) rfl fun a w hS => s_call hS rfl Try.call9 (huff_Codes_c hG K zs13 A9 c10 (hV12.rdF (i := 0) rfl) (hV12.cap (fun _ => rfl) rfl) (hS.st.part 0 [0] (by kernel_rfl)) (wp_bind hM) (fun A240 c241 x242 f243 x244 w hM h245 hst => s_back hS.ev hst.appF rfl fun hS => ?_))
 replace hS : Ss _ _ _ H [f243, f11] F _ _ := hS
 refine st1 hS (mv rfl) rfl fun a w hS => st1 hS (ex rfl rfl) rfl fun a w hS => st1 hS (ex rfl rfl) rfl fun a w hS => st1 hS (asg rfl) rfl fun a w hS => st1 hS (asg rfl) rfl fun a w hS => wpList_nil <| then_n <| wp_seq <| wp_region_list <| st1 hS (mv rfl) rfl fun a w hS => s_call hS rfl Try.call10 (mortiseref06_Codes_c hG K l_1 A2 c3 (hr4.app _) hc5 (hS.st.part 0 [0, 1] (by kernel_rfl)) (wp_bind hM) (fun A400 c401 x402 f403 x404 w hM h405 hst => s_back hS.ev hst.appF rfl fun hS => ?_))
 replace hS : Ss _ _ _ H [f403, f243, f11] F _ _ := hS
 refine st1 hS (mv rfl) rfl fun a w hS => st1 hS (ex rfl rfl) rfl fun a w hS => st1 hS (ex rfl rfl) rfl fun a w hS => st1 hS (asg rfl) rfl fun a w hS => st1 hS (asg rfl) rfl fun a w hS => wpList_nil <| then_n <| wp_seq <| wp_region_list <| st1 hS (mv rfl) rfl fun a w hS => st1 hS (mv rfl) rfl fun a w hS => st1 hS (bin rfl rfl rfl) rfl fun a w hS => st1 hS (mv rfl) rfl fun a w hS => seg_cutJ (fun a w => ∃ (v430 : Bool), Ss 44 [] [(0, .slice A2 l_1.length c3), (3, .slice A9 zs13.length c10), (28, .bool v430)] H [f11] F a w ∧ (mortiselaw06_HuffCodes.j1 K l_1 zs13 v430).wp kr kp) 4 (fun J431 hJ431 => ?_) ?_
 ·refine ifB (b := (x244 == x404)) hM (fun hb406 hM => ?_) (fun hb406 hM => ?_)
  ·replace hS := hS.re 23 (v := .bool true) rfl (congrArg Value.bool hb406)
   replace hS := hS.re 24 (v := .bool true) rfl (congrArg Value.bool hb406)
   refine st1g hS rfl rfl rfl rfl (mv rfl) rfl fun a w hS => st1g hS rfl rfl rfl rfl (mv rfl) rfl fun a w hS => unguard hS rfl rfl rfl rfl <| s_call hS rfl Try.call11 (mortiseref06_SameInts_c hG K x242 x402 A240 c241 A400 c401 (h245.rdF (i := 1) rfl) (h245.cap (fun _ => rfl) rfl) (h405.rdF (i := 0) rfl) (h405.cap (fun _ => rfl) rfl) (hS.st.part 0 [0, 1, 2] (by kernel_rfl)) (wp_bind hM) (fun x429 w hM  hst => s_back hS.ev hst.appF rfl fun hS => ?_))
   replace hS : Ss _ _ _ H [f403, f243, f11] F _ _ := hS
   refine st1 hS (pk rfl rfl rfl) rfl fun a w hS => wpList_nil <| then_n ?_
   exact hJ431 _ _ ⟨x429, hS.to [2] (by kernel_rfl) ⟨rfl, rfl, rfl, trivial⟩, hM⟩
  ·replace hS := hS.re 23 (v := .bool false) rfl (congrArg Value.bool hb406)
   replace hS := hS.re 24 (v := .bool false) rfl (congrArg Value.bool hb406)
   refine skips 3 hS rfl fun a w hS => st1 hS (pk rfl rfl rfl) rfl fun a w hS => wpList_nil <| then_n ?_
   exact hJ431 _ _ ⟨false, hS.to [2] (by kernel_rfl) ⟨rfl, rfl, rfl, trivial⟩, hM⟩
 ·intro a w hI
  obtain ⟨v430, hS, hM⟩ := hI
  rw [mortiselaw06_HuffCodes.j1] at hM
  refine st1 hS (mv rfl) rfl fun a w hS => seg_cutJ (fun a w => ∃ (v435 : Bool), Ss 44 [] [(0, .slice A2 l_1.length c3), (3, .slice A9 zs13.length c10), (35, .bool v435)] H [f11] F a w ∧ (mortiselaw06_HuffCodes.j2 K l_1 zs13 v435).wp kr kp) 6 (fun J436 hJ436 => ?_) ?_
  ·refine ifB (b := v430) hM (fun hb432 hM => ?_) (fun hb432 hM => ?_)
   ·replace hS := hS.re 28 (v := .bool true) rfl (congrArg Value.bool hb432)
    replace hS := hS.re 29 (v := .bool true) rfl (congrArg Value.bool hb432)
    refine st1g hS rfl rfl rfl rfl (mv rfl) rfl fun a w hS => unguard hS rfl rfl rfl rfl <| s_call hS rfl Try.call12 (huff_Check_c hG K zs13 A9 c10 (hV12.rdF (i := 0) rfl) (hV12.cap (fun _ => rfl) rfl) (hS.st.part 0 [0] (by kernel_rfl)) (wp_bind hM) (fun x433 w hM  hst => s_back hS.ev hst.appF rfl fun hS => ?_))
    replace hS : Ss _ _ _ H [f11] F _ _ := hS
    refine st1g hS rfl rfl rfl rfl (mv rfl) rfl fun a w hS => unguard hS rfl rfl rfl rfl <| s_call hS rfl Try.call13 (mortiseref06_Check_c hG K l_1 A2 c3 (hr4.app _) hc5 (hS.st.part 0 [0] (by kernel_rfl)) (wp_bind hM) (fun x434 w hM  hst => s_back hS.ev hst.appF rfl fun hS => ?_))
    replace hS : Ss _ _ _ H [f11] F _ _ := hS
    refine st1g hS rfl rfl rfl rfl (bin rfl rfl rfl) rfl fun a w hS => st1 hS (pk rfl rfl rfl) rfl fun a w hS => wpList_nil <| then_n ?_
    exact hJ436 _ _ ⟨(x433 == x434), hS.to [0] (by kernel_rfl) ⟨rfl, rfl, rfl, trivial⟩, hM⟩
   ·replace hS := hS.re 28 (v := .bool false) rfl (congrArg Value.bool hb432)
    replace hS := hS.re 29 (v := .bool false) rfl (congrArg Value.bool hb432)
    refine skips 5 hS rfl fun a w hS => st1 hS (pk rfl rfl rfl) rfl fun a w hS => wpList_nil <| then_n ?_
    exact hJ436 _ _ ⟨false, hS.to [0] (by kernel_rfl) ⟨rfl, rfl, rfl, trivial⟩, hM⟩
  ·intro a w hI
   obtain ⟨v435, hS, hM⟩ := hI
   rw [mortiselaw06_HuffCodes.j2] at hM
   refine st1 hS (mv rfl) rfl fun a w hS => seg_cutJ (fun a w => ∃ (v439 : Bool), Ss 44 [] [(40, .bool v439)] H [] F a w ∧ (mortiselaw06_HuffCodes.j3 K v439).wp kr kp) 4 (fun J440 hJ440 => ?_) ?_
   ·refine ifB (b := v435) hM (fun hb437 hM => ?_) (fun hb437 hM => ?_)
    ·replace hS := hS.re 35 (v := .bool true) rfl (congrArg Value.bool hb437)
     replace hS := hS.re 36 (v := .bool true) rfl (congrArg Value.bool hb437)
     refine st1g hS rfl rfl rfl rfl (mv rfl) rfl fun a w hS => st1g hS rfl rfl rfl rfl (mv rfl) rfl fun a w hS => unguard hS rfl rfl rfl rfl <| s_call hS rfl Try.call11 (mortiseref06_SameInts_c hG K zs13 l_1 A9 c10 A2 c3 (hV12.rdF (i := 0) rfl) (hV12.cap (fun _ => rfl) rfl) (hr4.app _) hc5 (hS.st.part 0 [0] (by kernel_rfl)) (wp_bind hM) (fun x438 w hM  hst => s_back hS.ev hst.appF rfl fun hS => ?_))
     replace hS : Ss _ _ _ H [f11] F _ _ := hS
     refine st1 hS (pk rfl rfl rfl) rfl fun a w hS => wpList_nil <| then_n ?_
     exact hJ440 _ _ ⟨x438, hS.to [] (by kernel_rfl) ⟨rfl, trivial⟩, hM⟩
    ·replace hS := hS.re 35 (v := .bool false) rfl (congrArg Value.bool hb437)
     replace hS := hS.re 36 (v := .bool false) rfl (congrArg Value.bool hb437)
     refine skips 3 hS rfl fun a w hS => st1 hS (pk rfl rfl rfl) rfl fun a w hS => wpList_nil <| then_n ?_
     exact hJ440 _ _ ⟨false, hS.to [] (by kernel_rfl) ⟨rfl, trivial⟩, hM⟩
   ·intro a w hI
    obtain ⟨v439, hS, hM⟩ := hI
    rw [mortiselaw06_HuffCodes.j3] at hM
    refine st1 hS (mv rfl) rfl fun a w hS => seg_cutJ (fun a w => ∃ (v4547 : Bool), Ss 44 [] [(43, .bool v4547)] H [] F a w ∧ (mortiselaw06_HuffCodes.j4 K v4547).wp kr kp) 2 (fun J4548 hJ4548 => ?_) ?_
    ·refine ifB (b := v439) hM (fun hb441 hM => ?_) (fun hb441 hM => ?_)
     ·replace hS := hS.re 40 (v := .bool true) rfl (congrArg Value.bool hb441)
      replace hS := hS.re 41 (v := .bool true) rfl (congrArg Value.bool hb441)
      refine unguard hS rfl rfl rfl rfl <| s_call hS rfl Try.call14 (mortiselaw06_live_c hG K  (hS.st.part 0 [] (by kernel_rfl)) (wp_bind hM) (fun x4546 w hM  hst => s_back hS.ev hst.appF rfl fun hS => ?_) (fun v w hk hst => s_pan (then_pan (then_pan (⟨hS.ev.defs, hpan _ _ hk hst.appF.frame⟩)))))
      replace hS : Ss _ _ _ H [] F _ _ := hS
      refine st1 hS (pk rfl rfl rfl) rfl fun a w hS => wpList_nil <| then_n ?_
      exact hJ4548 _ _ ⟨x4546, hS.to [] (by kernel_rfl) ⟨rfl, trivial⟩, hM⟩
     ·replace hS := hS.re 40 (v := .bool false) rfl (congrArg Value.bool hb441)
      replace hS := hS.re 41 (v := .bool false) rfl (congrArg Value.bool hb441)
      refine skips 1 hS rfl fun a w hS => st1 hS (pk rfl rfl rfl) rfl fun a w hS => wpList_nil <| then_n ?_
      exact hJ4548 _ _ ⟨false, hS.to [] (by kernel_rfl) ⟨rfl, trivial⟩, hM⟩
    ·intro a w hI
     obtain ⟨v4547, hS, hM⟩ := hI
     rw [mortiselaw06_HuffCodes.j4] at hM
     refine st1 hS (asg rfl) rfl fun a w hS => wpList_nil <| then_n <| wp_ret ?_
     exact s_ret (rs := [2]) hS rfl rfl (hret v4547 w (wp_ok hM) (hS.st.pick [] (by kernel_rfl)))

theorem huff_Table_Next_adda_c {H : Imm} {F : List Frag} {w : World} {R : Ending → World → Prop} {kr : (Int × Int × Int × (Option T_huff_Table)) → Prop} {kp : Value → Prop} (hG : Gl H) (K : Nat) (t4617 : Option T_huff_Table) (r4621 : T_bits_Reader) (A4618 : Option Addr) (f4619 : Frag) (b4622 : Nat) (f4623 : Frag) (hO4620 : Opt T_huff_Table.Own A4618 t4617 f4619) (hB4624 : Blk f4623 b4622 ([.int .i64 r4621.place_.at_, str r4621.text_]) 63)
    (hS : St w H [f4619, f4623] F) (hm : (huff_Table_Next_adda.m K t4617 r4621).wp kr kp)
    (hret : ∀ (x4707 : Int) (x4708 : Int) (at_4709 : Int) (f4710 : Frag) (t4712 : Option T_huff_Table) (f4713 : Frag) (w : World), kr (x4707, x4708, at_4709, t4712) → (Blk f4710 b4622 ([.int .i64 at_4709, str r4621.text_]) 63) → (Opt T_huff_Table.Own A4618 t4712 f4713) → St w H [f4710, f4713] F → R (.returned (.tuple ⟨[.int .i64 x4707, .int .i64 x4708]⟩)) w) :
    Calls Try.prog 17 ⟨[.pointer A4618, ptr b4622 0]⟩ w R := by
 refine enter Try.func17 rfl Try.ntmps17 rfl hS fun a w hS => ?_
 have hM := hm; clear hm
 rw [huff_Table_Next_adda.m] at hM
 refine wp_seq <| wp_region_list <| st1 hS (asg rfl) rfl fun a w hS => st1 hS (asg rfl) rfl fun a w hS => wpList_nil <| then_n <| wp_seq <| wp_seq <| wp_region_list <| st1 hS (mv rfl) rfl fun a w hS => st1 hS (eqNilO rfl rfl Try.runUnderlying30 hO4620) rfl fun a w hS => st1 hS (mv rfl) rfl fun a w hS => g_op 2 false 16 (b := t4617.isNone) (r := false) hS rfl rfl rfl rfl rfl rfl rfl (fun hb a w hS K hK => ?_) rfl fun a w hS => ?_
 ·refine st1g hS rfl rfl rfl hb (mv rfl) rfl fun a w hS => ?_
  refine st1g hS rfl rfl rfl hb (eqNil rfl rfl Try.runUnderlying33) rfl fun a w hS => ?_
  exact wpList_nil (hK _ _ (hS.up 2 rfl rfl))
 refine wpList_nil <| then_n <| s_cond hS rfl hM (fun hb4625 hM => ?_) (fun hb4625 hM => ?_)
 ·refine wp_seq ?_
  refine wp_region_list <| st1 hS (asg rfl) rfl fun a w hS => st1 hS (asg rfl) rfl fun a w hS => wpList_nil <| then_n <| wp_ret <| then_ret ?_
  exact s_ret (rs := [4, 5]) hS rfl rfl (hret (0 : Int) (1 : Int) r4621.place_.at_ f4623 t4617 f4619 w (wp_ok hM) hB4624 hO4620 (hS.st.pick [1, 0] (by kernel_rfl)))
 ·obtain ⟨x4626, ho4627, hM⟩ := wp_unw hM
  obtain ⟨b4628, hA, hO4636⟩ := hO4620.get ho4627
  obtain ⟨f4629, A4632, c4633, f4634, hF, hB4630, hl4631, hV4635⟩ := hO4636
  subst hA; subst hF
  replace hS := hS.front [0, 1] (by kernel_rfl)
  replace hS := hS.splitF
  refine wp_skip <| then_n <| wp_seq <| wp_region_list <| st1 hS (mv rfl) rfl fun a w hS => st1 hS (nck rfl) rfl fun a w hS => st1 hS (ldbA 2 rfl hB4624 rfl ([.int .i64 r4621.place_.at_, str r4621.text_]) rfl rfl Try.isAgg63 Try.sizeOf63) rfl fun a w hS => alc ([.int .i64 (0 : Int), str ([] : List UInt8)]) hS Try.zeroValue63 rfl rfl fun w b4637 f4638 hB4639 hS => stB 0 ([.int .i64 r4621.place_.at_, str r4621.text_]) ([.int .i64 r4621.place_.at_, str r4621.text_]) hS rfl rfl hB4639 rfl rfl Try.sizeOf63 (by simp [Value.oneCell']) (Nat.le_of_ble_eq_true rfl) rfl fun w f4640 hB4641 hS => wpList_nil <| then_n <| wp_seq <| wp_region_list <| st1 hS (asg rfl) rfl fun a w hS => st1 hS (asg rfl) rfl fun a w hS => st1 hS (asg rfl) rfl fun a w hS => wpList_nil <| then_n <| seq_joinJ (fun a w => ∃ (at_4701 : Int) (f4702 : Frag), Ss 81 [] [(1, ptr b4622 0), (6, ptr b4637 0)] H [f4702, f4629, f4634, f4640] F a w ∧ (Blk f4702 b4622 ([.int .i64 at_4701, str r4621.text_]) 63) ∧ (huff_Table_Next_adda.j2 K r4621 x4626 at_4701).wp kr kp) (fun J4704 hJ4704 => ?_) ?_
  ·refine wp_seq ?_
   refine wp_region_list <| st1 hS (asg rfl) rfl fun a w hS => wpList_nil <| then_n <| wp_block <| s_loopJ (fun k4680 a w => ∃ (at_4673 : Int) (f4674 : Frag) (code4676 : Int) (first4677 : Int) (passed4678 : Int) (n_4679 : Int), Ss 81 [] [(0, ptr b4628 0), (1, ptr b4622 0), (6, ptr b4637 0), (7, .int .i64 code4676), (8, .int .i64 first4677), (9, .int .i64 passed4678), (10, .int .i64 n_4679)] H [f4674, f4629, f4634, f4640] F a w ∧ (Blk f4674 b4622 ([.int .i64 at_4673, str r4621.text_]) 63) ∧ (huff_Table_Next_adda.l1 K r4621 x4626 k4680 at_4673 code4676 first4677 passed4678 n_4679).wp kr kp) K ?_ ?_ ?_
   ·exact ⟨r4621.place_.at_, f4623, (0 : Int), (0 : Int), (0 : Int), (1 : Int), hS.to [3, 1, 2, 0] (by kernel_rfl) ⟨rfl, rfl, rfl, rfl, rfl, rfl, rfl, trivial⟩, hB4624, hM⟩
   ·intro a w hI; obtain ⟨_, _, _, _, _, _, _, _, hM⟩ := hI; exact wp_fail hM
   ·intro k4680 a w hI J4700 hJ4700
    obtain ⟨at_4673, f4674, code4676, first4677, passed4678, n_4679, hS, hB4675, hM⟩ := hI
    rw [huff_Table_Next_adda.l1] at hM
    refine wp_seq <| wp_seq <| wp_region_list <| st1 hS (mv rfl) rfl fun a w hS => st1 hS (mv rfl) rfl fun a w hS => st1 hS (nck rfl) rfl fun a w hS => st1 hS (fad rfl Try.runUnderlying61 rfl Try.sizeOf22 rfl) rfl fun a w hS => st1 hS (ldP 1 rfl hB4630 rfl (by rfl) (flat_ln (g := (ci .i64)) (sz := 1) (fun _ => rfl) hl4631) Try.isAgg22) rfl fun a w hS => st1 hS (lenV rfl Try.runUnderlying22) rfl fun a w hS => st1 hS (bin rfl rfl rfl) rfl fun a w hS => wpList_nil <| then_n <| s_cond hS rfl hM (fun hb4681 hM => ?_) (fun hb4681 hM => ?_)
    ·refine wp_skip ?_
     refine then_n <| wp_seq <| wp_block <| wp_seq <| wp_region_list <| st1 hS (mv rfl) rfl fun a w hS => s_call hS rfl Try.call28 (bits_Reader_Bits_c hG K (T_bits_Reader.mk (T_bits_place.mk at_4673) r4621.text_) (1 : Int) b4622 f4674 hB4675 (hS.st.part 1 [0, 1, 2, 3] (by kernel_rfl)) (wp_bind hM) (fun x4682 x4683 at_4684 f4685 w hM h4686 hst => s_back hS.ev hst.appF rfl fun hS => ?_))
     replace hS : Ss _ _ _ H [f4685, f4629, f4634, f4640] F _ _ := hS
     refine st1 hS (mv rfl) rfl fun a w hS => st1 hS (ex rfl rfl) rfl fun a w hS => st1 hS (ex rfl rfl) rfl fun a w hS => st1 hS (asg rfl) rfl fun a w hS => st1 hS (asg rfl) rfl fun a w hS => wpList_nil <| then_n <| wp_seq <| wp_seq <| wp_region_list <| st1 hS (mv rfl) rfl fun a w hS => st1 hS (bin rfl rfl rfl) rfl fun a w hS => wpList_nil <| then_n <| s_cond hS rfl hM (fun hb4687 hM => ?_) (fun hb4687 hM => ?_)
     ·refine wp_seq ?_
      refine wp_region_list <| st1 hS (mv rfl) rfl fun a w hS => st1 hS (ldbA 3 rfl hB4641 rfl ([.int .i64 r4621.place_.at_, str r4621.text_]) rfl rfl Try.isAgg63 Try.sizeOf63) rfl fun a w hS => st1 hS (nck rfl) rfl fun a w hS => stB 0 ([.int .i64 r4621.place_.at_, str r4621.text_]) ([.int .i64 r4621.place_.at_, str r4621.text_]) hS rfl rfl h4686 rfl rfl Try.sizeOf63 (by simp [Value.oneCell']) (Nat.le_of_ble_eq_true rfl) rfl fun w f4688 hB4689 hS => wpList_nil <| then_n <| wp_seq <| wp_region_list <| st1 hS (mv rfl) rfl fun a w hS => st1 hS (asg rfl) rfl fun a w hS => st1 hS (asg rfl) rfl fun a w hS => wpList_nil <| then_n <| wp_ret <| then_ret (blk_ret (then_ret (then_ret (blk_ret (then_ret ?_)))))
      replace hS := hS.front [1, 2, 0, 3] (by kernel_rfl)
      replace hS := hS.joinF
      exact s_ret (rs := [4, 5]) hS rfl rfl (hret (0 : Int) x4683 r4621.place_.at_ f4688 (some x4626) (f4629 ++ f4634) w (wp_ok hM) hB4689 (.inr ⟨_, _, rfl, rfl, f4629, A4632, c4633, f4634, rfl, hB4630, hl4631, hV4635⟩) (hS.st.pick [1, 0] (by kernel_rfl)))
     ·refine wp_skip ?_
      refine then_n <| wp_seq <| wp_region_list <| st1 hS (mv rfl) rfl fun a w hS => st1 hS (shl rfl rfl rfl) rfl fun a w hS => st1 hS (mv rfl) rfl fun a w hS => st1 hS (cvi rfl Try.runUnderlying53 Try.runUnderlying3) rfl fun a w hS => st1 hS (bin rfl rfl rfl) rfl fun a w hS => st1x (v := Value.int .i64) (x0 := (ior .i64 (ishl .i64 code4676 (1 : Int)) (wr .i64 x4682))) hS (asg rfl) rfl fun code4690 a w hz hS => ?_
      have hM := lt_to hz hM; clear hz
      refine wpList_nil <| then_n <| wp_seq <| wp_region_list <| st1 hS (mv rfl) rfl fun a w hS => st1 hS (shl rfl rfl rfl) rfl fun a w hS => st1x (v := Value.int .i64) (x0 := (ishl .i64 first4677 (1 : Int))) hS (asg rfl) rfl fun first4691 a w hz hS => ?_
      have hM := lt_to hz hM; clear hz
      refine wpList_nil <| then_n <| wp_seq <| wp_region_list <| st1 hS (mv rfl) rfl fun a w hS => st1 hS (mv rfl) rfl fun a w hS => st1 hS (nck rfl) rfl fun a w hS => st1 hS (fad rfl Try.runUnderlying61 rfl Try.sizeOf56 rfl) rfl fun a w hS => ?_
      obtain ⟨hk4692, hM⟩ := wp_chk hM
      refine st1 hS (ixB rfl rfl Try.runUnderlying56 Try.sizeOf3 hk4692) rfl fun a w hS => st1 hS (ldR (xs := x4626.counts_) (g := (ci .i64)) (pre := []) (post := [.slice A4632 x4626.symbols_.length c4633]) 1 rfl hB4630 rfl (by simp) rfl (fun _ => rfl) (inb_len hl4631 hk4692) rfl Try.isAgg3) rfl fun a w hS => st1x (v := Value.int .i64) (x0 := (rd x4626.counts_ n_4679)) hS (asg rfl) rfl fun k_4693 a w hz hS => ?_
      have hM := lt_to hz hM; clear hz
      refine wpList_nil <| then_n <| wp_seq <| wp_seq <| wp_region_list <| st1 hS (mv rfl) rfl fun a w hS => st1 hS (mv rfl) rfl fun a w hS => st1 hS (bin rfl rfl rfl) rfl fun a w hS => st1 hS (mv rfl) rfl fun a w hS => st1 hS (bin rfl rfl rfl) rfl fun a w hS => wpList_nil <| then_n <| s_cond hS rfl hM (fun hb4694 hM => ?_) (fun hb4694 hM => ?_)
      ·refine wp_seq ?_
       refine wp_region_list <| st1 hS (mv rfl) rfl fun a w hS => st1 hS (nck rfl) rfl fun a w hS => st1 hS (fad rfl Try.runUnderlying61 rfl Try.sizeOf22 rfl) rfl fun a w hS => st1 hS (ldP 1 rfl hB4630 rfl (by rfl) (flat_ln (g := (ci .i64)) (sz := 1) (fun _ => rfl) hl4631) Try.isAgg22) rfl fun a w hS => st1 hS (mv rfl) rfl fun a w hS => st1 hS (mv rfl) rfl fun a w hS => st1 hS (bin rfl rfl rfl) rfl fun a w hS => st1 hS (mv rfl) rfl fun a w hS => st1 hS (bin rfl rfl rfl) rfl fun a w hS => ?_
       obtain ⟨hk4695, hM⟩ := wp_chk hM
       refine st1 hS (ixV rfl rfl Try.runUnderlying22 Try.sizeOf3 (hV4635.rd (i := 2) rfl) (fun _ => rfl) rfl hk4695) rfl fun a w hS => st1 hS (ldV0 rfl (hV4635.rd (i := 2) rfl) (fun _ => rfl) hk4695 rfl Try.isAgg3) rfl fun a w hS => st1x (v := Value.int .i64) (x0 := (rd x4626.symbols_ (w64 ((w64 (passed4678 + code4690)) - first4691)))) hS (asg rfl) rfl fun v4696 a w hz hS => ?_
       have hM := lt_to hz hM; clear hz
       refine st1 hS (asg rfl) rfl fun a w hS => wpList_nil <| then_n <| wp_ret <| then_ret (blk_ret (then_ret (then_ret (blk_ret (then_ret ?_)))))
       replace hS := hS.front [1, 2, 0, 3] (by kernel_rfl)
       replace hS := hS.joinF
       exact s_ret (rs := [4, 5]) hS rfl rfl (hret v4696 (0 : Int) at_4684 f4685 (some x4626) (f4629 ++ f4634) w (wp_ok hM) h4686 (.inr ⟨_, _, rfl, rfl, f4629, A4632, c4633, f4634, rfl, hB4630, hl4631, hV4635⟩) (hS.st.pick [1, 0] (by kernel_rfl)))
      ·refine wp_skip ?_
       refine then_n <| wp_seq <| wp_region_list <| st1 hS (mv rfl) rfl fun a w hS => st1 hS (mv rfl) rfl fun a w hS => st1 hS (bin rfl rfl rfl) rfl fun a w hS => st1x (v := Value.int .i64) (x0 := (w64 (first4691 + k_4693))) hS (asg rfl) rfl fun first4697 a w hz hS => ?_
       have hM := lt_to hz hM; clear hz
       refine wpList_nil <| then_n <| wp_region_list <| st1 hS (mv rfl) rfl fun a w hS => st1 hS (mv rfl) rfl fun a w hS => st1 hS (bin rfl rfl rfl) rfl fun a w hS => st1x (v := Value.int .i64) (x0 := (w64 (passed4678 + k_4693))) hS (asg rfl) rfl fun passed4698 a w hz hS => ?_
       have hM := lt_to hz hM; clear hz
       refine wpList_nil <| blk_n (then_n ?_)
       refine wp_region_list <| st1 hS (mv rfl) rfl fun a w hS => st1 hS (bin rfl rfl rfl) rfl fun a w hS => st1x (v := Value.int .i64) (x0 := (w64 (n_4679 + (1 : Int)))) hS (asg rfl) rfl fun n_4699 a w hz hS => ?_
       have hM := lt_to hz hM; clear hz
       refine wpList_nil <| then_n ?_
       exact hJ4700 _ _ ⟨at_4684, f4685, code4690, first4697, passed4698, n_4699, hS.to [0, 1, 2, 3] (by kernel_rfl) ⟨rfl, rfl, rfl, rfl, rfl, rfl, rfl, trivial⟩, h4686, hM⟩
    ·refine wp_exit ?_
     refine then_ex (then_ex (blk_same (then_n ?_)))
     exact hJ4704 _ _ ⟨at_4673, f4674, hS.to [0, 1, 2, 3] (by kernel_rfl) ⟨rfl, rfl, trivial⟩, hB4675, hM⟩
  ·intro a w hI
   obtain ⟨at_4701, f4702, hS, hB4703, hM⟩ := hI
   rw [huff_Table_Next_adda.j2] at hM
   refine wp_seq <| wp_region_list <| st1 hS (mv rfl) rfl fun a w hS => st1 hS (ldbA 3 rfl hB4641 rfl ([.int .i64 r4621.place_.at_, str r4621.text_]) rfl rfl Try.isAgg63 Try.sizeOf63) rfl fun a w hS => st1 hS (nck rfl) rfl fun a w hS => stB 0 ([.int .i64 r4621.place_.at_, str r4621.text_]) ([.int .i64 r4621.place_.at_, str r4621.text_]) hS rfl rfl hB4703 rfl rfl Try.sizeOf63 (by simp [Value.oneCell']) (Nat.le_of_ble_eq_true rfl) rfl fun w f4705 hB4706 hS => wpList_nil <| then_n <| wp_seq <| wp_region_list <| st1 hS (asg rfl) rfl fun a w hS => st1 hS (asg rfl) rfl fun a w hS => wpList_nil <| then_n <| wp_ret ?_
   replace hS := hS.front [1, 2, 0, 3] (by kernel_rfl)
   replace hS := hS.joinF
   exact s_ret (rs := [4, 5]) hS rfl rfl (hret (0 : Int) (3 : Int) r4621.place_.at_ f4705 (some x4626) (f4629 ++ f4634) w (wp_ok hM) hB4706 (.inr ⟨_, _, rfl, rfl, f4629, A4632, c4633, f4634, rfl, hB4630, hl4631, hV4635⟩) (hS.st.pick [1, 0] (by kernel_rfl)))

theorem mortiseref05_Reader_Bits_c {H : Imm} {F : List Frag} {w : World} {R : Ending → World → Prop} {kr : (Int × Int × Int) → Prop} {kp : Value → Prop} (hG : Gl H) (K : Nat) (r4767 : T_mortiseref05_Reader) (n_4771 : Int) (b4768 : Nat) (f4769 : Frag) (hB4770 : Blk f4769 b4768 ([str r4767.S_, .int .i64 r4767.At_]) 37)
    (hS : St w H [f4769] F) (hm : (mortiseref05_Reader_Bits.m K r4767 n_4771).wp kr kp)
    (hret : ∀ (x4790 : Int) (x4791 : Int) (at_4792 : Int) (f4793 : Frag) (w : World), kr (x4790, x4791, at_4792) → (Blk f4793 b4768 ([str r4767.S_, .int .i64 at_4792]) 37) → St w H [f4793] F → R (.returned (.tuple ⟨[.int .u32 x4790, .int .i64 x4791]⟩)) w) :
    Calls Try.prog 29 ⟨[ptr b4768 0, .int .i64 n_4771]⟩ w R := by
 refine enter Try.func29 rfl Try.ntmps29 rfl hS fun a w hS => ?_
 have hM := hm; clear hm
 rw [mortiseref05_Reader_Bits.m] at hM
 refine wp_seq <| wp_region_list <| st1 hS (asg rfl) rfl fun a w hS => st1 hS (asg rfl) rfl fun a w hS => wpList_nil <| then_n <| wp_seq <| wp_seq <| wp_region_list <| st1 hS (mv rfl) rfl fun a w hS => st1 hS (bin rfl rfl rfl) rfl fun a w hS => st1 hS (mv rfl) rfl fun a w hS => g_op 2 false 12 (b := (decide (n_4771 < (0 : Int)))) (r := (decide (n_4771 > (32 : Int)))) hS rfl rfl rfl rfl rfl rfl rfl (fun hb a w hS K hK => ?_) rfl fun a w hS => ?_
 ·refine st1g hS rfl rfl rfl hb (mv rfl) rfl fun a w hS => ?_
  refine st1g hS rfl rfl rfl hb (bin rfl rfl rfl) rfl fun a w hS => ?_
  exact wpList_nil (hK _ _ (hS.up 2 rfl rfl))
 refine wpList_nil <| then_n <| s_cond hS rfl hM (fun hb4772 hM => ?_) (fun hb4772 hM => ?_)
 ·refine wp_seq ?_
  refine wp_region_list <| st1 hS (asg rfl) rfl fun a w hS => st1 hS (asg rfl) rfl fun a w hS => wpList_nil <| then_n <| wp_ret <| then_ret ?_
  exact s_ret (rs := [4, 5]) hS rfl rfl (hret (0 : Int) (1 : Int) r4767.At_ f4769 w (wp_ok hM) hB4770 (hS.st.pick [0] (by kernel_rfl)))
 ·refine wp_skip ?_
  refine then_n <| wp_seq <| wp_seq <| draw_begin (vals := [some (.int .i64 n_4771), some (ptr b4768 0), some (ptr b4768 0), some (ptr b4768 0), some (str r4767.S_), some (.int .i64 (r4767.S_.length : Int)), some (.int .i64 (w64 ((8 : Int) * (r4767.S_.length : Int)))), some (ptr b4768 0), some (ptr b4768 0), some (ptr b4768 1), some (.int .i64 r4767.At_), some (.int .i64 (w64 ((w64 ((8 : Int) * (r4767.S_.length : Int))) - r4767.At_))), some (.bool (decide (n_4771 > (w64 ((w64 ((8 : Int) * (r4767.S_.length : Int))) - r4767.At_)))))]) hS mixed rfl ?_
  intro l w ho hcl hA hst
  refine phqE hA hst ho hcl nmust [0, 1, 2, 3, 4, 5, 6, 7, 8, 9, 10, 11, 12] rfl rfl rfl (by exact ⟨nR rfl rfl rfl rfl rfl (by exact ovE (mv rfl) rfl), nR rfl rfl rfl rfl rfl (by exact ovE (mv rfl) rfl), nR rfl rfl rfl rfl rfl (by exact ovE (nck rfl) rfl), nR rfl rfl rfl rfl rfl (by exact ovE (fad rfl Try.runUnderlying37 rfl Try.sizeOf9 rfl) rfl), nR rfl rfl rfl rfl rfl (by exact ovE (ldb 0 rfl hB4770 rfl rfl Try.isAgg9) rfl), nR rfl rfl rfl rfl rfl (by exact ovE (lenS rfl Try.runUnderlying9) rfl), nR rfl rfl rfl rfl rfl (by exact ovE (bin rfl rfl rfl) rfl), nR rfl rfl rfl rfl rfl (by exact ovE (mv rfl) rfl), nR rfl rfl rfl rfl rfl (by exact ovE (nck rfl) rfl), nR rfl rfl rfl rfl rfl (by exact ovE (fad rfl Try.runUnderlying37 rfl Try.sizeOf3 rfl) rfl), nR rfl rfl rfl rfl rfl (by exact ovE (ldb 0 rfl hB4770 rfl rfl Try.isAgg3) rfl), nR rfl rfl rfl rfl rfl (by exact ovE (bin rfl rfl rfl) rfl), nR rfl rfl rfl rfl rfl (by exact ovE (bin rfl rfl rfl) rfl), trivial⟩) fun a w hS => ?_
  replace hS := hS.env2 (e' := [(0, ptr b4768 0), (1, .int .i64 n_4771), (28, .bool (decide (n_4771 > (w64 ((w64 ((8 : Int) * (r4767.S_.length : Int))) - r4767.At_)))))]) ⟨rfl, rfl, rfl, trivial⟩
  refine then_n <| s_cond hS rfl hM (fun hb4773 hM => ?_) (fun hb4773 hM => ?_)
  ·refine wp_seq ?_
   refine wp_region_list <| st1 hS (asg rfl) rfl fun a w hS => st1 hS (asg rfl) rfl fun a w hS => wpList_nil <| then_n <| wp_ret <| then_ret ?_
   exact s_ret (rs := [4, 5]) hS rfl rfl (hret (0 : Int) (2 : Int) r4767.At_ f4769 w (wp_ok hM) hB4770 (hS.st.pick [0] (by kernel_rfl)))
  ·refine wp_skip ?_
   refine then_n <| wp_seq <| wp_region_list <| st1 hS (asg rfl) rfl fun a w hS => wpList_nil <| then_n <| seq_joinJ (fun a w => ∃ (v4786 : Int), Ss 69 [] [(0, ptr b4768 0), (1, .int .i64 n_4771), (6, .int .u32 v4786)] H [f4769] F a w ∧ (mortiseref05_Reader_Bits.j2 K r4767 n_4771 v4786).wp kr kp) (fun J4787 hJ4787 => ?_) ?_
   ·refine wp_seq ?_
    refine wp_region_list <| st1 hS (asg rfl) rfl fun a w hS => wpList_nil <| then_n <| wp_block <| s_loopJ (fun k4776 a w => ∃ (v4774 : Int) (i4775 : Int), Ss 69 [] [(0, ptr b4768 0), (1, .int .i64 n_4771), (6, .int .u32 v4774), (7, .int .i64 i4775)] H [f4769] F a w ∧ (mortiseref05_Reader_Bits.l1 K r4767 n_4771 k4776 v4774 i4775).wp kr kp) K ?_ ?_ ?_
    ·exact ⟨(0 : Int), (0 : Int), hS.to [0] (by kernel_rfl) ⟨rfl, rfl, rfl, rfl, trivial⟩, hM⟩
    ·intro a w hI; obtain ⟨_, _, _, hM⟩ := hI; exact wp_fail hM
    ·intro k4776 a w hI J4785 hJ4785
     obtain ⟨v4774, i4775, hS, hM⟩ := hI
     rw [mortiseref05_Reader_Bits.l1] at hM
     refine wp_seq <| wp_seq <| wp_region_list <| st1 hS (mv rfl) rfl fun a w hS => st1 hS (mv rfl) rfl fun a w hS => st1 hS (bin rfl rfl rfl) rfl fun a w hS => wpList_nil <| then_n <| s_cond hS rfl hM (fun hb4777 hM => ?_) (fun hb4777 hM => ?_)
     ·refine wp_skip ?_
      refine then_n <| wp_seq <| wp_block <| wp_seq <| wp_region_list <| st1 hS (mv rfl) rfl fun a w hS => st1 hS (nck rfl) rfl fun a w hS => st1 hS (fad rfl Try.runUnderlying37 rfl Try.sizeOf3 rfl) rfl fun a w hS => st1 hS (ldb 0 rfl hB4770 rfl rfl Try.isAgg3) rfl fun a w hS => st1 hS (mv rfl) rfl fun a w hS => st1 hS (bin rfl rfl rfl) rfl fun a w hS => st1x (v := Value.int .i64) (x0 := (w64 (r4767.At_ + i4775))) hS (asg rfl) rfl fun k_4778 a w hz hS => ?_
      have hM := lt_to hz hM; clear hz
      refine wpList_nil <| then_n <| wp_seq <| wp_region_list <| st1 hS (mv rfl) rfl fun a w hS => st1 hS (nck rfl) rfl fun a w hS => st1 hS (fad rfl Try.runUnderlying37 rfl Try.sizeOf9 rfl) rfl fun a w hS => st1 hS (ldb 0 rfl hB4770 rfl rfl Try.isAgg9) rfl fun a w hS => st1 hS (mv rfl) rfl fun a w hS => st1 hS (quo rfl rfl rfl) rfl fun a w hS => ?_
      obtain ⟨hk4779, hM⟩ := wp_chk hM
      refine st1 hS (ixs rfl rfl Try.runUnderlying9 hk4779) rfl fun a w hS => st1 hS (cvi rfl Try.runUnderlying5 Try.runUnderlying53) rfl fun a w hS => st1 hS (mv rfl) rfl fun a w hS => st1 hS (rem rfl rfl rfl) rfl fun a w hS => st1 hS (cvi rfl Try.runUnderlying3 Try.runUnderlying46) rfl fun a w hS => ?_
      obtain ⟨hk4780, hM⟩ := wp_chk hM
      refine st1 hS (shr rfl rfl hk4780) rfl fun a w hS => st1 hS (rem rfl rfl rfl) rfl fun a w hS => st1x (v := Value.int .u32) (x0 := (irem (ishr .u32 (wr .u32 ((rd r4767.S_ (iquo .i64 k_4778 (8 : Int))).toNat : Int)) (wr .u64 (irem k_4778 (8 : Int)))) (2 : Int))) hS (asg rfl) rfl fun b_4781 a w hz hS => ?_
      have hM := lt_to hz hM; clear hz
      refine wpList_nil <| then_n <| wp_region_list <| st1 hS (mv rfl) rfl fun a w hS => st1 hS (mv rfl) rfl fun a w hS => st1 hS (mv rfl) rfl fun a w hS => st1 hS (cvi rfl Try.runUnderlying3 Try.runUnderlying46) rfl fun a w hS => ?_
      obtain ⟨hk4782, hM⟩ := wp_chk hM
      refine st1 hS (shl rfl rfl hk4782) rfl fun a w hS => st1 hS (bin rfl rfl rfl) rfl fun a w hS => st1x (v := Value.int .u32) (x0 := (wr .u32 (v4774 + (ishl .u32 b_4781 (wr .u64 i4775))))) hS (asg rfl) rfl fun v4783 a w hz hS => ?_
      have hM := lt_to hz hM; clear hz
      refine wpList_nil <| blk_n (then_n ?_)
      refine wp_region_list <| st1 hS (mv rfl) rfl fun a w hS => st1 hS (bin rfl rfl rfl) rfl fun a w hS => st1x (v := Value.int .i64) (x0 := (w64 (i4775 + (1 : Int)))) hS (asg rfl) rfl fun i4784 a w hz hS => ?_
      have hM := lt_to hz hM; clear hz
      refine wpList_nil <| then_n ?_
      exact hJ4785 _ _ ⟨v4783, i4784, hS.to [0] (by kernel_rfl) ⟨rfl, rfl, rfl, rfl, trivial⟩, hM⟩
     ·refine wp_exit ?_
      refine then_ex (then_ex (blk_same (then_n ?_)))
      exact hJ4787 _ _ ⟨v4774, hS.to [0] (by kernel_rfl) ⟨rfl, rfl, rfl, trivial⟩, hM⟩
   ·intro a w hI
    obtain ⟨v4786, hS, hM⟩ := hI
    rw [mortiseref05_Reader_Bits.j2] at hM
    refine wp_seq <| wp_region_list <| st1 hS (mv rfl) rfl fun a w hS => st1 hS (mv rfl) rfl fun a w hS => st1 hS (nck rfl) rfl fun a w hS => st1 hS (fad rfl Try.runUnderlying37 rfl Try.sizeOf3 rfl) rfl fun a w hS => st1 hS (ldb 0 rfl hB4770 rfl rfl Try.isAgg3) rfl fun a w hS => st1 hS (mv rfl) rfl fun a w hS => st1 hS (bin rfl rfl rfl) rfl fun a w hS => st1 hS (nck rfl) rfl fun a w hS => st1 hS (fad rfl Try.runUnderlying37 rfl Try.sizeOf3 rfl) rfl fun a w hS => sto 0 ([str r4767.S_, .int .i64 (w64 (r4767.At_ + n_4771))]) hS rfl rfl hB4770 rfl rfl rfl rfl Try.sizeOf3 fun w f4788 hB4789 hS => wpList_nil <| then_n <| wp_seq <| wp_region_list <| st1 hS (mv rfl) rfl fun a w hS => st1 hS (asg rfl) rfl fun a w hS => st1 hS (asg rfl) rfl fun a w hS => wpList_nil <| then_n <| wp_ret ?_
    exact s_ret (rs := [4, 5]) hS rfl rfl (hret v4786 (0 : Int) (w64 (r4767.At_ + n_4771)) f4788 w (wp_ok hM) hB4789 (hS.st.pick [0] (by kernel_rfl)))

theorem mortiseref06_Next_c {H : Imm} {F : List Frag} {w : World} {R : Ending → World → Prop} {kr : (Int × Int × Int) → Prop} {kp : Value → Prop} (hG : Gl H) (K : Nat) (l_4723 : List Int) (codes4728 : List Int) (r4733 : T_mortiseref05_Reader) (A4724 : Option Addr) (c4725 : Nat) (A4729 : Option Addr) (c4730 : Nat) (b4734 : Nat) (f4735 : Frag) (hr4726 : Rdl H [] F (ci .i64) A4724 l_4723) (hc4727 : l_4723.length ≤ c4725) (hr4731 : Rdl H [] F (ci .i64) A4729 codes4728) (hc4732 : codes4728.length ≤ c4730) (hB4736 : Blk f4735 b4734 ([str r4733.S_, .int .i64 r4733.At_]) 37)
    (hS : St w H [f4735] F) (hm : (mortiseref06_Next.m K l_4723 codes4728 r4733).wp kr kp)
    (hret : ∀ (x4860 : Int) (x4861 : Int) (at_4862 : Int) (f4863 : Frag) (w : World), kr (x4860, x4861, at_4862) → (Blk f4863 b4734 ([str r4733.S_, .int .i64 at_4862]) 37) → St w H [f4863] F → R (.returned (.tuple ⟨[.int .i64 x4860, .int .i64 x4861]⟩)) w) :
    Calls Try.prog 18 ⟨[.slice A4724 l_4723.length c4725, .slice A4729 codes4728.length c4730, ptr b4734 0]⟩ w R := by
 refine enter Try.func18 rfl Try.ntmps18 rfl hS fun a w hS => ?_
 have hM := hm; clear hm
 rw [mortiseref06_Next.m] at hM
 refine wp_seq <| wp_region_list <| st1 hS (asg rfl) rfl fun a w hS => st1 hS (asg rfl) rfl fun a w hS => wpList_nil <| then_n <| wp_seq <| wp_region_list <| st1 hS (mv rfl) rfl fun a w hS => st1 hS (nck rfl) rfl fun a w hS => st1 hS (fad rfl Try.runUnderlying37 rfl Try.sizeOf3 rfl) rfl fun a w hS => st1 hS (ldb 0 rfl hB4736 rfl rfl Try.isAgg3) rfl fun a w hS => st1 hS (asg rfl) rfl fun a w hS => wpList_nil <| then_n <| wp_seq <| wp_region_list <| st1 hS (asg rfl) rfl fun a w hS => wpList_nil <| then_n <| seq_joinJ (fun a w => ∃ (at_4854 : Int) (f4855 : Frag), Ss 100 [] [(2, ptr b4734 0), (8, .int .i64 r4733.At_)] H [f4855] F a w ∧ (Blk f4855 b4734 ([str r4733.S_, .int .i64 at_4854]) 37) ∧ (mortiseref06_Next.j4 K r4733 at_4854).wp kr kp) (fun J4857 hJ4857 => ?_) ?_
 ·refine wp_seq ?_
  refine wp_region_list <| st1 hS (asg rfl) rfl fun a w hS => wpList_nil <| then_n <| wp_block <| s_loopJ (fun k4815 a w => ∃ (at_4810 : Int) (f4811 : Frag) (v4813 : Int) (length4814 : Int), Ss 100 [] [(0, .slice A4724 l_4723.length c4725), (1, .slice A4729 codes4728.length c4730), (2, ptr b4734 0), (8, .int .i64 r4733.At_), (9, .int .i64 v4813), (10, .int .i64 length4814)] H [f4811] F a w ∧ (Blk f4811 b4734 ([str r4733.S_, .int .i64 at_4810]) 37) ∧ (mortiseref06_Next.l1 K l_4723 codes4728 r4733 k4815 at_4810 v4813 length4814).wp kr kp) K ?_ ?_ ?_
  ·exact ⟨r4733.At_, f4735, (0 : Int), (0 : Int), hS.to [0] (by kernel_rfl) ⟨rfl, rfl, rfl, rfl, rfl, rfl, trivial⟩, hB4736, hM⟩
  ·intro a w hI; obtain ⟨_, _, _, _, _, _, hM⟩ := hI; exact wp_fail hM
  ·intro k4815 a w hI J4853 hJ4853
   obtain ⟨at_4810, f4811, v4813, length4814, hS, hB4812, hM⟩ := hI
   rw [mortiseref06_Next.l1] at hM
   refine wp_seq <| wp_seq <| wp_region_list <| st1 hS (mv rfl) rfl fun a w hS => st1 hS (bin rfl rfl rfl) rfl fun a w hS => wpList_nil <| then_n <| s_cond hS rfl hM (fun hb4816 hM => ?_) (fun hb4816 hM => ?_)
   ·refine wp_skip ?_
    refine then_n <| wp_seq <| wp_block <| wp_seq <| wp_region_list <| st1 hS (asg rfl) rfl fun a w hS => wpList_nil <| then_n <| seq_joinJ (fun a w => ∃ (begins4838 : Bool), Ss 100 [] [(0, .slice A4724 l_4723.length c4725), (1, .slice A4729 codes4728.length c4730), (2, ptr b4734 0), (8, .int .i64 r4733.At_), (9, .int .i64 v4813), (10, .int .i64 length4814), (11, .bool begins4838)] H [f4811] F a w ∧ (mortiseref06_Next.j3 K (mortiseref06_Next.l1 K l_4723 codes4728 r4733 k4815) r4733 at_4810 v4813 length4814 begins4838).wp kr kp) (fun J4839 hJ4839 => ?_) ?_
    ·refine wp_seq ?_
     refine wp_region_list <| st1 hS (asg rfl) rfl fun a w hS => wpList_nil <| then_n <| wp_block <| s_loopJ (fun k4819 a w => ∃ (begins4817 : Bool) (i4818 : Int), Ss 100 [] [(0, .slice A4724 l_4723.length c4725), (1, .slice A4729 codes4728.length c4730), (2, ptr b4734 0), (8, .int .i64 r4733.At_), (9, .int .i64 v4813), (10, .int .i64 length4814), (11, .bool begins4817), (12, .int .i64 i4818)] H [f4811] F a w ∧ (mortiseref06_Next.l2 K (mortiseref06_Next.l1 K l_4723 codes4728 r4733 k4815) l_4723 codes4728 r4733 at_4810 v4813 length4814 k4819 begins4817 i4818).wp kr kp) K ?_ ?_ ?_
     ·exact ⟨false, (0 : Int), hS.to [0] (by kernel_rfl) ⟨rfl, rfl, rfl, rfl, rfl, rfl, rfl, rfl, trivial⟩, hM⟩
     ·intro a w hI; obtain ⟨_, _, _, hM⟩ := hI; exact wp_fail hM
     ·intro k4819 a w hI J4837 hJ4837
      obtain ⟨begins4817, i4818, hS, hM⟩ := hI
      rw [mortiseref06_Next.l2] at hM
      refine wp_seq <| wp_seq <| wp_region_list <| st1 hS (mv rfl) rfl fun a w hS => st1 hS (mv rfl) rfl fun a w hS => st1 hS (lenV rfl Try.runUnderlying22) rfl fun a w hS => st1 hS (bin rfl rfl rfl) rfl fun a w hS => wpList_nil <| then_n <| s_cond hS rfl hM (fun hb4820 hM => ?_) (fun hb4820 hM => ?_)
      ·refine wp_skip ?_
       refine then_n <| wp_seq <| wp_block <| wp_seq <| wp_seq <| wp_region_list <| st1 hS (mv rfl) rfl fun a w hS => st1 hS (mv rfl) rfl fun a w hS => ?_
       obtain ⟨hk4821, hM⟩ := wp_chk hM
       refine st1 hS (ixV rfl rfl Try.runUnderlying22 Try.sizeOf3 hr4726.wk (fun _ => rfl) rfl hk4821) rfl fun a w hS => st1 hS (ldV0 rfl hr4726.wk (fun _ => rfl) hk4821 rfl Try.isAgg3) rfl fun a w hS => st1 hS (mv rfl) rfl fun a w hS => st1 hS (bin rfl rfl rfl) rfl fun a w hS => st1 hS (mv rfl) rfl fun a w hS => g_op 2 true 35 (b := ((rd l_4723 i4818) == length4814)) (r := (decide (length4814 > (0 : Int)))) hS rfl rfl rfl rfl rfl rfl rfl (fun hb a w hS K hK => ?_) rfl fun a w hS => ?_
       ·refine st1g hS rfl rfl rfl hb (mv rfl) rfl fun a w hS => ?_
        refine st1g hS rfl rfl rfl hb (bin rfl rfl rfl) rfl fun a w hS => ?_
        exact wpList_nil (hK _ _ (hS.up 2 rfl rfl))
       refine st1 hS (mv rfl) rfl fun a w hS => ?_
       obtain ⟨hk4824, hM⟩ := wp_chk hM
       refine g_op 6 true 39 (b := (((rd l_4723 i4818) == length4814) && (decide (length4814 > (0 : Int))))) (r := ((rd codes4728 i4818) == v4813)) hS rfl rfl rfl rfl rfl rfl rfl (fun hb a w hS K hK => ?_) rfl fun a w hS => ?_
       ·refine st1g hS rfl rfl rfl hb (mv rfl) rfl fun a w hS => ?_
        refine st1g hS rfl rfl rfl hb (mv rfl) rfl fun a w hS => ?_
        have hk4823 := imp_of hk4824 hb
        refine st1g hS rfl rfl rfl hb (ixV rfl rfl Try.runUnderlying22 Try.sizeOf3 hr4731.wk (fun _ => rfl) rfl hk4823) rfl fun a w hS => st1g hS rfl rfl rfl hb (ldV0 rfl hr4731.wk (fun _ => rfl) hk4823 rfl Try.isAgg3) rfl fun a w hS => st1g hS rfl rfl rfl hb (mv rfl) rfl fun a w hS => st1g hS rfl rfl rfl hb (bin rfl rfl rfl) rfl fun a w hS => ?_
        exact wpList_nil (hK _ _ (hS.up 6 rfl rfl))
       refine wpList_nil <| then_n <| s_cond hS rfl hM (fun hb4825 hM => ?_) (fun hb4825 hM => ?_)
       ·refine wp_seq ?_
        refine wp_region_list <| st1 hS (mv rfl) rfl fun a w hS => st1 hS (asg rfl) rfl fun a w hS => st1 hS (asg rfl) rfl fun a w hS => wpList_nil <| then_n <| wp_ret <| then_ret (blk_ret (then_ret (then_ret (blk_ret (then_ret (blk_ret (then_ret (then_ret (blk_ret (then_ret ?_))))))))))
        exact s_ret (rs := [6, 7]) hS rfl rfl (hret i4818 (0 : Int) at_4810 f4811 w (wp_ok hM) hB4812 (hS.st.pick [0] (by kernel_rfl)))
       ·refine wp_skip ?_
        refine then_n <| ifB (b := begins4817) hM (fun hb4826 hM => ?_) (fun hb4826 hM => ?_)
        ·refine draw_begin (vals := [some (.bool true), some (.bool true), some (undef), some (undef), some (undef), some (undef), some (undef), some (undef), some (undef), some (undef), some (undef), some (undef), some (undef), some (undef), some (undef), some (undef), some (undef), some (undef), some (undef), some (undef), some (undef), some (undef), some (undef), some (undef), some (.bool true), some (.bool true)]) hS mixed rfl ?_
         intro l w ho hcl hA hst
         refine phqE hA hst ho hcl nmust [0, 1, 2, 3, 4, 5, 6, 7, 8, 9, 10, 11, 12, 13, 14, 15, 16, 17, 18, 19, 20, 21, 22, 23, 24, 25] rfl rfl rfl (by exact ⟨nR rfl rfl rfl rfl rfl (by exact ovE (mv rfl) (congrArg Value.bool hb4826)), nR rfl rfl rfl rfl rfl (by exact ovE (mv rfl) rfl), nS rfl rfl rfl rfl rfl rfl rfl rfl rfl, nS rfl rfl rfl rfl rfl rfl rfl rfl rfl, nS rfl rfl rfl rfl rfl rfl rfl rfl rfl, nS rfl rfl rfl rfl rfl rfl rfl rfl rfl, nS rfl rfl rfl rfl rfl rfl rfl rfl rfl, nS rfl rfl rfl rfl rfl rfl rfl rfl rfl, nS rfl rfl rfl rfl rfl rfl rfl rfl rfl, nS rfl rfl rfl rfl rfl rfl rfl rfl rfl, nS rfl rfl rfl rfl rfl rfl rfl rfl rfl, nS rfl rfl rfl rfl rfl rfl rfl rfl rfl, nS rfl rfl rfl rfl rfl rfl rfl rfl rfl, nS rfl rfl rfl rfl rfl rfl rfl rfl rfl, nS rfl rfl rfl rfl rfl rfl rfl rfl rfl, nS rfl rfl rfl rfl rfl rfl rfl rfl rfl, nS rfl rfl rfl rfl rfl rfl rfl rfl rfl, nS rfl rfl rfl rfl rfl rfl rfl rfl rfl, nS rfl rfl rfl rfl rfl rfl rfl rfl rfl, nS rfl rfl rfl rfl rfl rfl rfl rfl rfl, nS rfl rfl rfl rfl rfl rfl rfl rfl rfl, nS rfl rfl rfl rfl rfl rfl rfl rfl rfl, nS rfl rfl rfl rfl rfl rfl rfl rfl rfl, nS rfl rfl rfl rfl rfl rfl rfl rfl rfl, nR rfl rfl rfl rfl rfl (by exact ovE (pk rfl rfl rfl) rfl), nR rfl rfl rfl rfl rfl (by exact ovE (asg rfl) rfl), trivial⟩) fun a w hS => ?_
         replace hS := hS.env2 (e' := [(0, .slice A4724 l_4723.length c4725), (1, .slice A4729 codes4728.length c4730), (2, ptr b4734 0), (8, .int .i64 r4733.At_), (9, .int .i64 v4813), (10, .int .i64 length4814), (11, .bool true), (12, .int .i64 i4818)]) ⟨rfl, rfl, rfl, rfl, rfl, rfl, rfl, rfl, trivial⟩
         refine blk_n (then_n ?_)
         refine wp_region_list <| st1 hS (mv rfl) rfl fun a w hS => st1 hS (bin rfl rfl rfl) rfl fun a w hS => st1x (v := Value.int .i64) (x0 := (w64 (i4818 + (1 : Int)))) hS (asg rfl) rfl fun i4827 a w hz hS => ?_
         have hM := lt_to hz hM; clear hz
         refine wpList_nil <| then_n ?_
         exact hJ4837 _ _ ⟨true, i4827, hS.to [0] (by kernel_rfl) ⟨rfl, rfl, rfl, rfl, rfl, rfl, rfl, rfl, trivial⟩, hM⟩
        ·refine ifB (b := (decide ((rd l_4723 i4818) > length4814))) hM (fun hb4828 hM => ?_) (fun hb4828 hM => ?_)
         ·obtain ⟨hk4830, hM⟩ := wp_chk hM
          obtain ⟨hk4832, hM⟩ := wp_chk hM
          obtain ⟨begins4833, hz4834⟩ : ∃ x, x = ((ishr .i64 (rd codes4728 i4818) (wr .u64 (w64 ((rd l_4723 i4818) - length4814)))) == v4813) := ⟨_, rfl⟩
          replace hM := lt_to hz4834 hM
          refine draw_begin (vals := [some (.bool false), some (.bool false), some (.slice A4724 l_4723.length c4725), some (.int .i64 i4818), some (slp A4724 (Int.toNat i4818 * 1)), some (.int .i64 (rd l_4723 i4818)), some (.int .i64 length4814), some (.bool true), some (.bool true), some (.slice A4729 codes4728.length c4730), some (.int .i64 i4818), some (slp A4729 (Int.toNat i4818 * 1)), some (.int .i64 (rd codes4728 i4818)), some (.slice A4724 l_4723.length c4725), some (.int .i64 i4818), some (slp A4724 (Int.toNat i4818 * 1)), some (.int .i64 (rd l_4723 i4818)), some (.int .i64 length4814), some (.int .i64 (w64 ((rd l_4723 i4818) - length4814))), some (.int .u64 (wr .u64 (w64 ((rd l_4723 i4818) - length4814)))), some (.int .i64 (ishr .i64 (rd codes4728 i4818) (wr .u64 (w64 ((rd l_4723 i4818) - length4814))))), some (.int .i64 v4813), some (.bool ((ishr .i64 (rd codes4728 i4818) (wr .u64 (w64 ((rd l_4723 i4818) - length4814)))) == v4813)), some (.bool ((ishr .i64 (rd codes4728 i4818) (wr .u64 (w64 ((rd l_4723 i4818) - length4814)))) == v4813)), some (.bool ((ishr .i64 (rd codes4728 i4818) (wr .u64 (w64 ((rd l_4723 i4818) - length4814)))) == v4813)), some (.bool begins4833)]) hS mixed rfl ?_
          intro l w ho hcl hA hst
          refine phqE hA hst ho hcl nmust [0, 1, 2, 3, 4, 5, 6, 7, 8, 9, 10, 11, 12, 13, 14, 15, 16, 17, 18, 19, 20, 21, 22, 23, 24, 25] rfl rfl rfl (by exact ⟨nR rfl rfl rfl rfl rfl (by exact ovE (mv rfl) (congrArg Value.bool hb4826)), nR rfl rfl rfl rfl rfl (by exact ovE (mv rfl) rfl), nW rfl rfl rfl rfl rfl rfl rfl rfl (by exact ovE (mv rfl) rfl), nW rfl rfl rfl rfl rfl rfl rfl rfl (by exact ovE (mv rfl) rfl), nW rfl rfl rfl rfl rfl rfl rfl rfl (by exact ovE (ixV rfl rfl Try.runUnderlying22 Try.sizeOf3 hr4726.wk (fun _ => rfl) rfl hk4821) rfl), nW rfl rfl rfl rfl rfl rfl rfl rfl (by exact ovE (ldV0 rfl hr4726.wk (fun _ => rfl) hk4821 rfl Try.isAgg3) rfl), nW rfl rfl rfl rfl rfl rfl rfl rfl (by exact ovE (mv rfl) rfl), nW rfl rfl rfl rfl rfl rfl rfl rfl (by exact ovE (bin rfl rfl rfl) (congrArg Value.bool hb4828)), nW rfl rfl rfl rfl rfl rfl rfl rfl (by exact ovE (mv rfl) rfl), nW rfl rfl rfl rfl rfl rfl rfl rfl (by exact ovE (mv rfl) rfl), nW rfl rfl rfl rfl rfl rfl rfl rfl (by exact ovE (mv rfl) rfl), nW rfl rfl rfl rfl rfl rfl rfl rfl (by exact ovE (ixV rfl rfl Try.runUnderlying22 Try.sizeOf3 hr4731.wk (fun _ => rfl) rfl hk4830) rfl), nW rfl rfl rfl rfl rfl rfl rfl rfl (by exact ovE (ldV0 rfl hr4731.wk (fun _ => rfl) hk4830 rfl Try.isAgg3) rfl), nW rfl rfl rfl rfl rfl rfl rfl rfl (by exact ovE (mv rfl) rfl), nW rfl rfl rfl rfl rfl rfl rfl rfl (by exact ovE (mv rfl) rfl), nW rfl rfl rfl rfl rfl rfl rfl rfl (by exact ovE (ixV rfl rfl Try.runUnderlying22 Try.sizeOf3 hr4726.wk (fun _ => rfl) rfl hk4821) rfl), nW rfl rfl rfl rfl rfl rfl rfl rfl (by exact ovE (ldV0 rfl hr4726.wk (fun _ => rfl) hk4821 rfl Try.isAgg3) rfl), nW rfl rfl rfl rfl rfl rfl rfl rfl (by exact ovE (mv rfl) rfl), nW rfl rfl rfl rfl rfl rfl rfl rfl (by exact ovE (bin rfl rfl rfl) rfl), nW rfl rfl rfl rfl rfl rfl rfl rfl (by exact ovE (cvi rfl Try.runUnderlying3 Try.runUnderlying46) rfl), nW rfl rfl rfl rfl rfl rfl rfl rfl (by exact ovE (shr rfl rfl hk4832) rfl), nW rfl rfl rfl rfl rfl rfl rfl rfl (by exact ovE (mv rfl) rfl), nW rfl rfl rfl rfl rfl rfl rfl rfl (by exact ovE (bin rfl rfl rfl) rfl), nW rfl rfl rfl rfl rfl rfl rfl rfl (by exact ovE (pk rfl rfl rfl) rfl), nR rfl rfl rfl rfl rfl (by exact ovE (pk rfl rfl rfl) rfl), nR rfl rfl rfl rfl rfl (by exact ovE (asg rfl) (congrArg (Value.bool) hz4834.symm)), trivial⟩) fun a w hS => ?_
          replace hS := hS.env2 (e' := [(0, .slice A4724 l_4723.length c4725), (1, .slice A4729 codes4728.length c4730), (2, ptr b4734 0), (8, .int .i64 r4733.At_), (9, .int .i64 v4813), (10, .int .i64 length4814), (11, .bool begins4833), (12, .int .i64 i4818)]) ⟨rfl, rfl, rfl, rfl, rfl, rfl, rfl, rfl, trivial⟩
          refine blk_n (then_n ?_)
          refine wp_region_list <| st1 hS (mv rfl) rfl fun a w hS => st1 hS (bin rfl rfl rfl) rfl fun a w hS => st1x (v := Value.int .i64) (x0 := (w64 (i4818 + (1 : Int)))) hS (asg rfl) rfl fun i4835 a w hz hS => ?_
          have hM := lt_to hz hM; clear hz
          refine wpList_nil <| then_n ?_
          exact hJ4837 _ _ ⟨begins4833, i4835, hS.to [0] (by kernel_rfl) ⟨rfl, rfl, rfl, rfl, rfl, rfl, rfl, rfl, trivial⟩, hM⟩
         ·refine draw_begin (vals := [some (.bool false), some (.bool false), some (.slice A4724 l_4723.length c4725), some (.int .i64 i4818), some (slp A4724 (Int.toNat i4818 * 1)), some (.int .i64 (rd l_4723 i4818)), some (.int .i64 length4814), some (.bool false), some (.bool false), some (undef), some (undef), some (undef), some (undef), some (undef), some (undef), some (undef), some (undef), some (undef), some (undef), some (undef), some (undef), some (undef), some (undef), some (.bool false), some (.bool false), some (.bool false)]) hS mixed rfl ?_
          intro l w ho hcl hA hst
          refine phqE hA hst ho hcl nmust [0, 1, 2, 3, 4, 5, 6, 7, 8, 9, 10, 11, 12, 13, 14, 15, 16, 17, 18, 19, 20, 21, 22, 23, 24, 25] rfl rfl rfl (by exact ⟨nR rfl rfl rfl rfl rfl (by exact ovE (mv rfl) (congrArg Value.bool hb4826)), nR rfl rfl rfl rfl rfl (by exact ovE (mv rfl) rfl), nW rfl rfl rfl rfl rfl rfl rfl rfl (by exact ovE (mv rfl) rfl), nW rfl rfl rfl rfl rfl rfl rfl rfl (by exact ovE (mv rfl) rfl), nW rfl rfl rfl rfl rfl rfl rfl rfl (by exact ovE (ixV rfl rfl Try.runUnderlying22 Try.sizeOf3 hr4726.wk (fun _ => rfl) rfl hk4821) rfl), nW rfl rfl rfl rfl rfl rfl rfl rfl (by exact ovE (ldV0 rfl hr4726.wk (fun _ => rfl) hk4821 rfl Try.isAgg3) rfl), nW rfl rfl rfl rfl rfl rfl rfl rfl (by exact ovE (mv rfl) rfl), nW rfl rfl rfl rfl rfl rfl rfl rfl (by exact ovE (bin rfl rfl rfl) (congrArg Value.bool hb4828)), nW rfl rfl rfl rfl rfl rfl rfl rfl (by exact ovE (mv rfl) rfl), nS rfl rfl rfl rfl rfl rfl rfl rfl rfl, nS rfl rfl rfl rfl rfl rfl rfl rfl rfl, nS rfl rfl rfl rfl rfl rfl rfl rfl rfl, nS rfl rfl rfl rfl rfl rfl rfl rfl rfl, nS rfl rfl rfl rfl rfl rfl rfl rfl rfl, nS rfl rfl rfl rfl rfl rfl rfl rfl rfl, nS rfl rfl rfl rfl rfl rfl rfl rfl rfl, nS rfl rfl rfl rfl rfl rfl rfl rfl rfl, nS rfl rfl rfl rfl rfl rfl rfl rfl rfl, nS rfl rfl rfl rfl rfl rfl rfl rfl rfl, nS rfl rfl rfl rfl rfl rfl rfl rfl rfl, nS rfl rfl rfl rfl rfl rfl rfl rfl rfl, nS rfl rfl rfl rfl rfl rfl rfl rfl rfl, nS rfl rfl rfl rfl rfl rfl rfl rfl rfl, nW rfl rfl rfl rfl rfl rfl rfl rfl (by exact ovE (pk rfl rfl rfl) rfl), nR rfl rfl rfl rfl rfl (by exact ovE (pk rfl rfl rfl) rfl), nR rfl rfl rfl rfl rfl (by exact ovE (asg rfl) rfl), trivial⟩) fun a w hS => ?_
          replace hS := hS.env2 (e' := [(0, .slice A4724 l_4723.length c4725), (1, .slice A4729 codes4728.length c4730), (2, ptr b4734 0), (8, .int .i64 r4733.At_), (9, .int .i64 v4813), (10, .int .i64 length4814), (11, .bool false), (12, .int .i64 i4818)]) ⟨rfl, rfl, rfl, rfl, rfl, rfl, rfl, rfl, trivial⟩
          refine blk_n (then_n ?_)
          refine wp_region_list <| st1 hS (mv rfl) rfl fun a w hS => st1 hS (bin rfl rfl rfl) rfl fun a w hS => st1x (v := Value.int .i64) (x0 := (w64 (i4818 + (1 : Int)))) hS (asg rfl) rfl fun i4836 a w hz hS => ?_
          have hM := lt_to hz hM; clear hz
          refine wpList_nil <| then_n ?_
          exact hJ4837 _ _ ⟨false, i4836, hS.to [0] (by kernel_rfl) ⟨rfl, rfl, rfl, rfl, rfl, rfl, rfl, rfl, trivial⟩, hM⟩
      ·refine wp_exit ?_
       refine then_ex (then_ex (blk_same (then_n ?_)))
       exact hJ4839 _ _ ⟨begins4817, hS.to [0] (by kernel_rfl) ⟨rfl, rfl, rfl, rfl, rfl, rfl, rfl, trivial⟩, hM⟩
    ·intro a w hI
     obtain ⟨begins4838, hS, hM⟩ := hI
     rw [mortiseref06_Next.j3] at hM
     refine wp_seq <| wp_seq <| wp_region_list <| st1 hS (mv rfl) rfl fun a w hS => st1 hS (un rfl rfl) rfl fun a w hS => wpList_nil <| then_n <| s_cond hS rfl hM (fun hb4840 hM => ?_) (fun hb4840 hM => ?_)
     ·refine wp_seq ?_
      refine wp_region_list <| st1 hS (mv rfl) rfl fun a w hS => st1 hS (mv rfl) rfl fun a w hS => st1 hS (nck rfl) rfl fun a w hS => st1 hS (fad rfl Try.runUnderlying37 rfl Try.sizeOf3 rfl) rfl fun a w hS => sto 0 ([str r4733.S_, .int .i64 r4733.At_]) hS rfl rfl hB4812 rfl rfl rfl rfl Try.sizeOf3 fun w f4841 hB4842 hS => wpList_nil <| then_n <| wp_seq <| wp_region_list <| st1 hS (asg rfl) rfl fun a w hS => st1 hS (asg rfl) rfl fun a w hS => wpList_nil <| then_n <| wp_ret <| then_ret (blk_ret (then_ret (then_ret (blk_ret (then_ret ?_)))))
      exact s_ret (rs := [6, 7]) hS rfl rfl (hret (0 : Int) (3 : Int) r4733.At_ f4841 w (wp_ok hM) hB4842 (hS.st.pick [0] (by kernel_rfl)))
     ·refine wp_skip ?_
      refine then_n <| wp_seq <| wp_region_list <| st1 hS (mv rfl) rfl fun a w hS => s_call hS rfl Try.call29 (mortiseref05_Reader_Bits_c hG K (T_mortiseref05_Reader.mk r4733.S_ at_4810) (1 : Int) b4734 f4811 hB4812 (hS.st.part 1 [0] (by kernel_rfl)) (wp_bind hM) (fun x4843 x4844 at_4845 f4846 w hM h4847 hst => s_back hS.ev hst.appF rfl fun hS => ?_))
      replace hS : Ss _ _ _ H [f4846] F _ _ := hS
      refine st1 hS (mv rfl) rfl fun a w hS => st1 hS (ex rfl rfl) rfl fun a w hS => st1 hS (ex rfl rfl) rfl fun a w hS => st1 hS (asg rfl) rfl fun a w hS => st1 hS (asg rfl) rfl fun a w hS => wpList_nil <| then_n <| wp_seq <| wp_seq <| wp_region_list <| st1 hS (mv rfl) rfl fun a w hS => st1 hS (bin rfl rfl rfl) rfl fun a w hS => wpList_nil <| then_n <| s_cond hS rfl hM (fun hb4848 hM => ?_) (fun hb4848 hM => ?_)
      ·refine wp_seq ?_
       refine wp_region_list <| st1 hS (mv rfl) rfl fun a w hS => st1 hS (mv rfl) rfl fun a w hS => st1 hS (nck rfl) rfl fun a w hS => st1 hS (fad rfl Try.runUnderlying37 rfl Try.sizeOf3 rfl) rfl fun a w hS => sto 0 ([str r4733.S_, .int .i64 r4733.At_]) hS rfl rfl h4847 rfl rfl rfl rfl Try.sizeOf3 fun w f4849 hB4850 hS => wpList_nil <| then_n <| wp_seq <| wp_region_list <| st1 hS (mv rfl) rfl fun a w hS => st1 hS (asg rfl) rfl fun a w hS => st1 hS (asg rfl) rfl fun a w hS => wpList_nil <| then_n <| wp_ret <| then_ret (blk_ret (then_ret (then_ret (blk_ret (then_ret ?_)))))
       exact s_ret (rs := [6, 7]) hS rfl rfl (hret (0 : Int) x4844 r4733.At_ f4849 w (wp_ok hM) hB4850 (hS.st.pick [0] (by kernel_rfl)))
      ·refine wp_skip ?_
       refine then_n <| wp_region_list <| st1 hS (mv rfl) rfl fun a w hS => st1 hS (bin rfl rfl rfl) rfl fun a w hS => st1 hS (mv rfl) rfl fun a w hS => st1 hS (cvi rfl Try.runUnderlying53 Try.runUnderlying3) rfl fun a w hS => st1 hS (bin rfl rfl rfl) rfl fun a w hS => st1x (v := Value.int .i64) (x0 := (w64 ((w64 ((2 : Int) * v4813)) + (wr .i64 x4843)))) hS (asg rfl) rfl fun v4851 a w hz hS => ?_
       have hM := lt_to hz hM; clear hz
       refine wpList_nil <| blk_n (then_n ?_)
       refine wp_region_list <| st1 hS (mv rfl) rfl fun a w hS => st1 hS (bin rfl rfl rfl) rfl fun a w hS => st1x (v := Value.int .i64) (x0 := (w64 (length4814 + (1 : Int)))) hS (asg rfl) rfl fun length4852 a w hz hS => ?_
       have hM := lt_to hz hM; clear hz
       refine wpList_nil <| then_n ?_
       exact hJ4853 _ _ ⟨at_4845, f4846, v4851, length4852, hS.to [0] (by kernel_rfl) ⟨rfl, rfl, rfl, rfl, rfl, rfl, trivial⟩, h4847, hM⟩
   ·refine wp_exit ?_
    refine then_ex (then_ex (blk_same (then_n ?_)))
    exact hJ4857 _ _ ⟨at_4810, f4811, hS.to [0] (by kernel_rfl) ⟨rfl, rfl, trivial⟩, hB4812, hM⟩
 ·intro a w hI
  obtain ⟨at_4854, f4855, hS, hB4856, hM⟩ := hI
  rw [mortiseref06_Next.j4] at hM
  refine wp_seq <| wp_region_list <| st1 hS (mv rfl) rfl fun a w hS => st1 hS (mv rfl) rfl fun a w hS => st1 hS (nck rfl) rfl fun a w hS => st1 hS (fad rfl Try.runUnderlying37 rfl Try.sizeOf3 rfl) rfl fun a w hS => sto 0 ([str r4733.S_, .int .i64 r4733.At_]) hS rfl rfl hB4856 rfl rfl rfl rfl Try.sizeOf3 fun w f4858 hB4859 hS => wpList_nil <| then_n <| wp_seq <| wp_region_list <| st1 hS (asg rfl) rfl fun a w hS => st1 hS (asg rfl) rfl fun a w hS => wpList_nil <| then_n <| wp_ret ?_
  exact s_ret (rs := [6, 7]) hS rfl rfl (hret (0 : Int) (3 : Int) r4733.At_ f4858 w (wp_ok hM) hB4859 (hS.st.pick [0] (by kernel_rfl)))

theorem mortiselaw06_HuffReads_c {H : Imm} {F : List Frag} {w : World} {R : Ending → World → Prop} {kr : Bool → Prop} {kp : Value → Prop} (hG : Gl H) (K : Nat) (l_4550 : List Int) (s4555 : List UInt8) (A4551 : Option Addr) (c4552 : Nat) (hr4553 : Rdl H [] F (ci .i64) A4551 l_4550) (hc4554 : l_4550.length ≤ c4552)
    (hS : St w H [] F) (hm : (mortiselaw06_HuffReads.m K l_4550 s4555).wp kr kp)
    (hret : ∀ (x4922 : Bool) (w : World), kr x4922 → St w H [] F → R (.returned (.bool x4922)) w)
    (hpan : ∀ v w, kp v → St w H [] F → R (.panicked [⟨v, false, false⟩]) w) :
    Calls Try.prog 4 ⟨[.slice A4551 l_4550.length c4552, str s4555]⟩ w R := by
 refine enter Try.func4 rfl Try.ntmps4 rfl hS fun a w hS => ?_
 have hM := hm; clear hm
 rw [mortiselaw06_HuffReads.m] at hM
 refine wp_seq <| wp_region_list <| st1 hS (asg rfl) rfl fun a w hS => wpList_nil <| then_n <| wp_seq <| wp_region_list <| st1 hS (asg rfl) rfl fun a w hS => ?_
 obtain ⟨f4556, hV4557, hS⟩ := hS.nilV 3 (ci .i64) 1
 refine wpList_nil <| then_n <| wp_seq <| wp_region_list <| st1 hS (mv rfl) rfl fun a w hS => st1 hS (mv rfl) rfl fun a w hS => ?_
 obtain ⟨hk4558, hM⟩ := wp_chk hM
 refine apV (ys := l_4550) 0 hS rfl rfl hV4557 rfl hr4553.wk Try.runUnderlying22 Try.runUnderlying22 X.el3 (fun _ => rfl) rfl one_t3 hk4558 rfl fun zs4563 w A4559 c4560 f4561 hz hV4562 hS => ?_
 have hM := lt_to hz hM; clear hz
 refine st1 hS (asg rfl) rfl fun a w hS => wpList_nil <| then_n <| wp_seq <| wp_region_list <| st1 hS (mv rfl) rfl fun a w hS => s_call hS rfl Try.call15 (huff_New_c hG K zs4563 A4559 c4560 (hV4562.rdF (i := 0) rfl) (hV4562.cap (fun _ => rfl) rfl) (hS.st.part 0 [0] (by kernel_rfl)) (wp_bind hM) (fun A4564 x4565 f4566 x4567 w hM h4568 hst => s_back hS.ev hst.appF rfl fun hS => ?_))
 replace hS : Ss _ _ _ H [f4566, f4561] F _ _ := hS
 refine st1 hS (mv rfl) rfl fun a w hS => st1 hS (ex rfl rfl) rfl fun a w hS => st1 hS (ex rfl rfl) rfl fun a w hS => st1 hS (asg rfl) rfl fun a w hS => st1 hS (asg rfl) rfl fun a w hS => wpList_nil <| then_n <| wp_seq <| wp_region_list <| st1 hS (mv rfl) rfl fun a w hS => s_call hS rfl Try.call10 (mortiseref06_Codes_c hG K l_4550 A4551 c4552 (hr4553.app _) hc4554 (hS.st.part 0 [0, 1] (by kernel_rfl)) (wp_bind hM) (fun A4569 c4570 x4571 f4572 x4573 w hM h4574 hst => s_back hS.ev hst.appF rfl fun hS => ?_))
 replace hS : Ss _ _ _ H [f4572, f4566, f4561] F _ _ := hS
 refine st1 hS (mv rfl) rfl fun a w hS => st1 hS (ex rfl rfl) rfl fun a w hS => st1 hS (ex rfl rfl) rfl fun a w hS => st1 hS (asg rfl) rfl fun a w hS => st1 hS (asg rfl) rfl fun a w hS => wpList_nil <| then_n <| wp_seq <| wp_seq <| wp_region_list <| st1 hS (mv rfl) rfl fun a w hS => st1 hS (mv rfl) rfl fun a w hS => st1 hS (bin rfl rfl rfl) rfl fun a w hS => st1 hS (mv rfl) rfl fun a w hS => g_op 5 false 34 (b := (x4567 != x4573)) (r := (!(x4565.isSome == (x4567 == (0 : Int))))) hS rfl rfl rfl rfl rfl rfl rfl (fun hb a w hS K hK => ?_) rfl fun a w hS => ?_
 ·refine st1g hS rfl rfl rfl hb (mv rfl) rfl fun a w hS => ?_
  refine st1g hS rfl rfl rfl hb (neNilO rfl rfl Try.runUnderlying30 h4568) rfl fun a w hS => st1g hS rfl rfl rfl hb (mv rfl) rfl fun a w hS => st1g hS rfl rfl rfl hb (bin rfl rfl rfl) rfl fun a w hS => st1g hS rfl rfl rfl hb (binB rfl rfl Try.runUnderlying4 rfl) rfl fun a w hS => ?_
  exact wpList_nil (hK _ _ (hS.up 5 rfl rfl))
 refine st1 hS (mv rfl) rfl fun a w hS => seg_cutJ (fun a w => ∃ (v4577 : Bool), Ss 99 [] [(0, .slice A4551 l_4550.length c4552), (1, str s4555), (5, .slice A4559 zs4563.length c4560), (6, .pointer A4564), (7, .int .i64 x4567), (8, .slice A4569 x4571.length c4570), (44, .bool v4577)] H [f4561, f4566, f4572] F a w ∧ (mortiselaw06_HuffReads.j1 K l_4550 s4555 zs4563 x4565 x4567 x4571 v4577).wp kr kp) 3 (fun J4578 hJ4578 => ?_) ?_
 ·refine ifB (b := ((x4567 != x4573) || (!(x4565.isSome == (x4567 == (0 : Int)))))) hM (fun hb4575 hM => ?_) (fun hb4575 hM => ?_)
  ·replace hS := hS.re 40 (v := .bool true) rfl (congrArg Value.bool hb4575)
   replace hS := hS.re 41 (v := .bool true) rfl (congrArg Value.bool hb4575)
   refine skips 2 hS rfl fun a w hS => st1 hS (pk rfl rfl rfl) rfl fun a w hS => wpList_nil <| then_n ?_
   exact hJ4578 _ _ ⟨true, hS.to [2, 1, 0] (by kernel_rfl) ⟨rfl, rfl, rfl, rfl, rfl, rfl, rfl, trivial⟩, hM⟩
  ·replace hS := hS.re 40 (v := .bool false) rfl (congrArg Value.bool hb4575)
   replace hS := hS.re 41 (v := .bool false) rfl (congrArg Value.bool hb4575)
   refine unguard hS rfl rfl rfl rfl <| s_call hS rfl Try.call14 (mortiselaw06_live_c hG K  (hS.st.part 0 [0, 1, 2] (by kernel_rfl)) (wp_bind hM) (fun x4576 w hM  hst => s_back hS.ev hst.appF rfl fun hS => ?_) (fun v w hk hst => s_pan (then_pan (then_pan (then_pan (⟨hS.ev.defs, hpan _ _ hk hst.appF.frame⟩))))))
   replace hS : Ss _ _ _ H [f4572, f4566, f4561] F _ _ := hS
   refine st1g hS rfl rfl rfl rfl (un rfl rfl) rfl fun a w hS => st1 hS (pk rfl rfl rfl) rfl fun a w hS => wpList_nil <| then_n ?_
   exact hJ4578 _ _ ⟨(!x4576), hS.to [2, 1, 0] (by kernel_rfl) ⟨rfl, rfl, rfl, rfl, rfl, rfl, rfl, trivial⟩, hM⟩
 ·intro a w hI
  obtain ⟨v4577, hS, hM⟩ := hI
  rw [mortiselaw06_HuffReads.j1] at hM
  refine wpList_nil <| then_n <| s_cond hS rfl hM (fun hb4579 hM => ?_) (fun hb4579 hM => ?_)
  ·refine wp_seq ?_
   refine wp_region_list <| st1 hS (asg rfl) rfl fun a w hS => wpList_nil <| then_n <| wp_ret <| then_ret ?_
   exact s_ret (rs := [4]) hS rfl rfl (hret false w (wp_ok hM) (hS.st.pick [] (by kernel_rfl)))
  ·refine wp_skip ?_
   refine then_n <| wp_seq <| wp_seq <| wp_region_list <| st1 hS (mv rfl) rfl fun a w hS => st1 hS (bin rfl rfl rfl) rfl fun a w hS => wpList_nil <| then_n <| s_cond hS rfl hM (fun hb4580 hM => ?_) (fun hb4580 hM => ?_)
   ·refine wp_seq ?_
    refine wp_region_list <| st1 hS (asg rfl) rfl fun a w hS => wpList_nil <| then_n <| wp_ret <| then_ret ?_
    exact s_ret (rs := [4]) hS rfl rfl (hret true w (wp_ok hM) (hS.st.pick [] (by kernel_rfl)))
   ·refine wp_skip ?_
    refine then_n <| seq_joinJ (fun a w => Ss 99 [] [(0, .slice A4551 l_4550.length c4552), (1, str s4555), (6, .pointer A4564), (8, .slice A4569 x4571.length c4570)] H [f4566, f4572] F a w ∧ (mortiselaw06_HuffReads.j3 K l_4550 s4555 x4565 x4571).wp kr kp) (fun J4607 hJ4607 => ?_) ?_
    ·refine wp_seq ?_
     refine wp_region_list <| st1 hS (asg rfl) rfl fun a w hS => wpList_nil <| then_n <| wp_block <| s_loopJ (fun k4598 a w => ∃ (own4594 : (List Int)) (f4595 : Frag) (i4597 : Int), Ss 99 [] [(0, .slice A4551 l_4550.length c4552), (1, str s4555), (5, .slice A4559 own4594.length c4560), (6, .pointer A4564), (8, .slice A4569 x4571.length c4570), (10, .int .i64 i4597)] H [f4595, f4566, f4572] F a w ∧ (Vec 3 (ci .i64) 1 A4559 own4594 c4560 f4595) ∧ (mortiselaw06_HuffReads.l2 K l_4550 s4555 x4565 x4571 k4598 own4594 i4597).wp kr kp) K ?_ ?_ ?_
     ·exact ⟨zs4563, f4561, (0 : Int), hS.to [0, 1, 2] (by kernel_rfl) ⟨rfl, rfl, rfl, rfl, rfl, rfl, trivial⟩, hV4562, hM⟩
     ·intro a w hI; obtain ⟨_, _, _, _, _, hM⟩ := hI; exact wp_fail hM
     ·intro k4598 a w hI J4606 hJ4606
      obtain ⟨own4594, f4595, i4597, hS, hV4596, hM⟩ := hI
      rw [mortiselaw06_HuffReads.l2] at hM
      refine wp_seq <| wp_seq <| wp_region_list <| st1 hS (mv rfl) rfl fun a w hS => st1 hS (mv rfl) rfl fun a w hS => st1 hS (lenV rfl Try.runUnderlying22) rfl fun a w hS => st1 hS (bin rfl rfl rfl) rfl fun a w hS => wpList_nil <| then_n <| s_cond hS rfl hM (fun hb4599 hM => ?_) (fun hb4599 hM => ?_)
      ·refine wp_skip ?_
       refine then_n <| wp_seq <| wp_block <| wp_region_list <| st1 hS (mv rfl) rfl fun a w hS => st1 hS (mv rfl) rfl fun a w hS => ?_
       obtain ⟨hk4600, hM⟩ := wp_chk hM
       refine st1 hS (ixV rfl rfl Try.runUnderlying22 Try.sizeOf3 (hV4596.rd (i := 0) rfl) (fun _ => rfl) rfl hk4600) rfl fun a w hS => stV (i := i4597) (sz := 1) 0 0 ((3 : Int)) hS rfl rfl hV4596 rfl Try.sizeOf3 (one_t3 (3 : Int)) (fun _ => rfl) hk4600 rfl rfl fun zs4603 w f4601 hz hz4604 hV4602 hS => ?_
       have hM := lt_to hz hM; clear hz
       replace hS := hS.re 5 (u := .slice A4559 own4594.length c4560) (v := .slice A4559 zs4603.length c4560) rfl (by rw [hz4604])
       replace hS := hS.re 48 (u := .slice A4559 own4594.length c4560) (v := .slice A4559 zs4603.length c4560) rfl (by rw [hz4604])
       replace hS := hS.re 53 (u := .slice A4559 own4594.length c4560) (v := .slice A4559 zs4603.length c4560) rfl (by rw [hz4604])
       refine wpList_nil <| blk_n (then_n ?_)
       refine wp_region_list <| st1 hS (mv rfl) rfl fun a w hS => st1 hS (bin rfl rfl rfl) rfl fun a w hS => st1x (v := Value.int .i64) (x0 := (w64 (i4597 + (1 : Int)))) hS (asg rfl) rfl fun i4605 a w hz hS => ?_
       have hM := lt_to hz hM; clear hz
       refine wpList_nil <| then_n ?_
       exact hJ4606 _ _ ⟨zs4603, f4601, i4605, hS.to [0, 1, 2] (by kernel_rfl) ⟨rfl, rfl, rfl, rfl, rfl, rfl, trivial⟩, hV4602, hM⟩
      ·refine wp_exit ?_
       refine then_ex (then_ex (blk_same (then_n ?_)))
       exact hJ4607 _ _ ⟨hS.to [1, 2] (by kernel_rfl) ⟨rfl, rfl, rfl, rfl, trivial⟩, hM⟩
    ·intro a w hI
     obtain ⟨hS, hM⟩ := hI
     rw [mortiselaw06_HuffReads.j3] at hM
     refine wp_seq <| wp_region_list <| st1 hS (mv rfl) rfl fun a w hS => s_call hS rfl Try.call16 (bits_New_c hG K s4555 (hS.st.part 0 [0, 1] (by kernel_rfl)) (wp_bind hM) (fun b4608 f4609 w hM h4610 hst => s_back hS.ev hst.appF rfl fun hS => ?_))
     replace hS : Ss _ _ _ H [f4609, f4566, f4572] F _ _ := hS
     refine st1 hS (asg rfl) rfl fun a w hS => wpList_nil <| then_n <| wp_seq <| wp_region_list <| st1 hS (mv rfl) rfl fun a w hS => st1 hS (bld ([str s4555, .int .i64 (0 : Int)]) [(0, 1), (1, 1)] Try.zeroValue37 Try.runUnderlying37 (by intro w; simp [Try.sizeOf3, Try.sizeOf9]) rfl rfl) rfl fun a w hS => bx ([str s4555, .int .i64 (0 : Int)]) hS rfl rfl rfl fun w b4611 f4612 hB4613 hS => st1 hS (asg rfl) rfl fun a w hS => wpList_nil <| then_n <| wp_seq <| wp_seq <| wp_region_list <| st1 hS (mv rfl) rfl fun a w hS => st1 hS (eqNil rfl rfl Try.runUnderlying33) rfl fun a w hS => wpList_nil <| then_n <| s_condF hS rfl <| wp_skip <| then_n <| wp_seq <| wp_seq <| wp_region_list <| st1 hS (asg rfl) rfl fun a w hS => wpList_nil <| then_n <| wp_block <| s_loopJ (fun k4899 a w => ∃ (A4888 : Option Addr) (t4889 : Option T_huff_Table) (f4890 : Frag) (at_4892 : Int) (f4893 : Frag) (at_4895 : Int) (f4896 : Frag) (i4898 : Int), Ss 99 [] [(0, .slice A4551 l_4550.length c4552), (6, .pointer A4888), (8, .slice A4569 x4571.length c4570), (11, ptr b4608 0), (12, ptr b4611 0), (13, .int .i64 i4898)] H [f4890, f4572, f4893, f4896] F a w ∧ (Opt T_huff_Table.Own A4888 t4889 f4890) ∧ (Blk f4893 b4608 ([.int .i64 at_4892, str s4555]) 63) ∧ (Blk f4896 b4611 ([str s4555, .int .i64 at_4895]) 37) ∧ (mortiselaw06_HuffReads.l4 K l_4550 s4555 x4571 k4899 t4889 at_4892 at_4895 i4898).wp kr kp) K ?_ ?_ ?_
     ·exact ⟨A4564, x4565, f4566, (0 : Int), f4609, (0 : Int), f4612, (0 : Int), hS.to [2, 3, 1, 0] (by kernel_rfl) ⟨rfl, rfl, rfl, rfl, rfl, rfl, trivial⟩, h4568, h4610, hB4613, hM⟩
     ·intro a w hI; obtain ⟨_, _, _, _, _, _, _, _, _, _, _, _, hM⟩ := hI; exact wp_fail hM
     ·intro k4899 a w hI J4921 hJ4921
      obtain ⟨A4888, t4889, f4890, at_4892, f4893, at_4895, f4896, i4898, hS, hO4891, hB4894, hB4897, hM⟩ := hI
      rw [mortiselaw06_HuffReads.l4] at hM
      refine wp_seq <| wp_seq <| wp_region_list <| st1 hS (mv rfl) rfl fun a w hS => st1 hS (bin rfl rfl rfl) rfl fun a w hS => wpList_nil <| then_n <| s_cond hS rfl hM (fun hb4900 hM => ?_) (fun hb4900 hM => ?_)
      ·refine wp_skip ?_
       refine then_n <| wp_seq <| wp_block <| wp_seq <| wp_region_list <| st1 hS (mv rfl) rfl fun a w hS => st1 hS (mv rfl) rfl fun a w hS => s_call hS rfl Try.call17 (huff_Table_Next_adda_c hG K t4889 (T_bits_Reader.mk (T_bits_place.mk at_4892) s4555) A4888 f4890 b4608 f4893 hO4891 hB4894 (hS.st.part 2 [0, 2, 1, 3] (by kernel_rfl)) (wp_bind hM) (fun x4901 x4902 at_4903 f4904 t4905 f4906 w hM h4907 h4908 hst => s_back hS.ev hst.appF rfl fun hS => ?_))
       replace hS : Ss _ _ _ H [f4904, f4906, f4572, f4896] F _ _ := hS
       refine st1 hS (mv rfl) rfl fun a w hS => st1 hS (ex rfl rfl) rfl fun a w hS => st1 hS (ex rfl rfl) rfl fun a w hS => st1 hS (asg rfl) rfl fun a w hS => st1 hS (asg rfl) rfl fun a w hS => wpList_nil <| then_n <| wp_seq <| wp_region_list <| st1 hS (mv rfl) rfl fun a w hS => st1 hS (mv rfl) rfl fun a w hS => st1 hS (mv rfl) rfl fun a w hS => s_call hS rfl Try.call18 (mortiseref06_Next_c hG K l_4550 x4571 (T_mortiseref05_Reader.mk s4555 at_4895) A4551 c4552 A4569 c4570 b4611 f4896 (hr4553.app _) hc4554 (h4574.rdF (i := 2) rfl) (h4574.cap (fun _ => rfl) rfl) hB4897 (hS.st.part 1 [3, 0, 1, 2] (by kernel_rfl)) (wp_bind hM) (fun x4909 x4910 at_4911 f4912 w hM h4913 hst => s_back hS.ev hst.appF rfl fun hS => ?_))
       replace hS : Ss _ _ _ H [f4912, f4904, f4906, f4572] F _ _ := hS
       refine st1 hS (mv rfl) rfl fun a w hS => st1 hS (ex rfl rfl) rfl fun a w hS => st1 hS (ex rfl rfl) rfl fun a w hS => st1 hS (asg rfl) rfl fun a w hS => st1 hS (asg rfl) rfl fun a w hS => wpList_nil <| then_n <| wp_seq <| seq_joinJ (fun a w => ∃ (v4916 : Bool), Ss 99 [] [(0, .slice A4551 l_4550.length c4552), (6, .pointer A4888), (8, .slice A4569 x4571.length c4570), (11, ptr b4608 0), (12, ptr b4611 0), (13, .int .i64 i4898), (17, .int .i64 x4910), (96, .bool v4916)] H [f4906, f4572, f4904, f4912] F a w ∧ (mortiselaw06_HuffReads.j5 K (mortiselaw06_HuffReads.l4 K l_4550 s4555 x4571 k4899) i4898 at_4903 t4905 x4910 at_4911 v4916).wp kr kp) (fun J4917 hJ4917 => ?_) ?_
       ·refine ifB (b := (x4901 != x4909)) hM (fun hb4914 hM => ?_) (fun hb4914 hM => ?_)
        ·refine draw_begin (vals := [some (.int .i64 x4901), some (.int .i64 x4909), some (.bool true), some (.bool true), some (undef), some (undef), some (undef), some (.bool true), some (.bool true), some (undef), some (undef), some (undef), some (undef), some (undef), some (undef), some (undef), some (.bool true)]) hS mixed rfl ?_
         intro l w ho hcl hA hst
         refine phqE hA hst ho hcl nmust [0, 1, 2, 3, 4, 5, 6, 7, 8, 9, 10, 11, 12, 13, 14, 15, 16] rfl rfl rfl (by exact ⟨nR rfl rfl rfl rfl rfl (by exact ovE (mv rfl) rfl), nR rfl rfl rfl rfl rfl (by exact ovE (mv rfl) rfl), nR rfl rfl rfl rfl rfl (by exact ovE (bin rfl rfl rfl) (congrArg Value.bool hb4914)), nR rfl rfl rfl rfl rfl (by exact ovE (mv rfl) rfl), nS rfl rfl rfl rfl rfl rfl rfl rfl rfl, nS rfl rfl rfl rfl rfl rfl rfl rfl rfl, nS rfl rfl rfl rfl rfl rfl rfl rfl rfl, nR rfl rfl rfl rfl rfl (by exact ovE (pk rfl rfl rfl) rfl), nR rfl rfl rfl rfl rfl (by exact ovE (mv rfl) rfl), nS rfl rfl rfl rfl rfl rfl rfl rfl rfl, nS rfl rfl rfl rfl rfl rfl rfl rfl rfl, nS rfl rfl rfl rfl rfl rfl rfl rfl rfl, nS rfl rfl rfl rfl rfl rfl rfl rfl rfl, nS rfl rfl rfl rfl rfl rfl rfl rfl rfl, nS rfl rfl rfl rfl rfl rfl rfl rfl rfl, nS rfl rfl rfl rfl rfl rfl rfl rfl rfl, nR rfl rfl rfl rfl rfl (by exact ovE (pk rfl rfl rfl) rfl), trivial⟩) fun a w hS => ?_
         replace hS := hS.env2 (e' := [(0, .slice A4551 l_4550.length c4552), (6, .pointer A4888), (8, .slice A4569 x4571.length c4570), (11, ptr b4608 0), (12, ptr b4611 0), (13, .int .i64 i4898), (17, .int .i64 x4910), (96, .bool true)]) ⟨rfl, rfl, rfl, rfl, rfl, rfl, rfl, rfl, trivial⟩
         refine then_n ?_
         exact hJ4917 _ _ ⟨true, hS.to [2, 3, 1, 0] (by kernel_rfl) ⟨rfl, rfl, rfl, rfl, rfl, rfl, rfl, rfl, trivial⟩, hM⟩
        ·refine ifB (b := (x4902 != x4910)) hM (fun hb4915 hM => ?_) (fun hb4915 hM => ?_)
         ·refine draw_begin (vals := [some (.int .i64 x4901), some (.int .i64 x4909), some (.bool false), some (.bool false), some (.int .i64 x4902), some (.int .i64 x4910), some (.bool true), some (.bool true), some (.bool true), some (undef), some (undef), some (undef), some (undef), some (undef), some (undef), some (undef), some (.bool true)]) hS mixed rfl ?_
          intro l w ho hcl hA hst
          refine phqE hA hst ho hcl nmust [0, 1, 2, 3, 4, 5, 6, 7, 8, 9, 10, 11, 12, 13, 14, 15, 16] rfl rfl rfl (by exact ⟨nR rfl rfl rfl rfl rfl (by exact ovE (mv rfl) rfl), nR rfl rfl rfl rfl rfl (by exact ovE (mv rfl) rfl), nR rfl rfl rfl rfl rfl (by exact ovE (bin rfl rfl rfl) (congrArg Value.bool hb4914)), nR rfl rfl rfl rfl rfl (by exact ovE (mv rfl) rfl), nW rfl rfl rfl rfl rfl rfl rfl rfl (by exact ovE (mv rfl) rfl), nW rfl rfl rfl rfl rfl rfl rfl rfl (by exact ovE (mv rfl) rfl), nW rfl rfl rfl rfl rfl rfl rfl rfl (by exact ovE (bin rfl rfl rfl) (congrArg Value.bool hb4915)), nR rfl rfl rfl rfl rfl (by exact ovE (pk rfl rfl rfl) rfl), nR rfl rfl rfl rfl rfl (by exact ovE (mv rfl) rfl), nS rfl rfl rfl rfl rfl rfl rfl rfl rfl, nS rfl rfl rfl rfl rfl rfl rfl rfl rfl, nS rfl rfl rfl rfl rfl rfl rfl rfl rfl, nS rfl rfl rfl rfl rfl rfl rfl rfl rfl, nS rfl rfl rfl rfl rfl rfl rfl rfl rfl, nS rfl rfl rfl rfl rfl rfl rfl rfl rfl, nS rfl rfl rfl rfl rfl rfl rfl rfl rfl, nR rfl rfl rfl rfl rfl (by exact ovE (pk rfl rfl rfl) rfl), trivial⟩) fun a w hS => ?_
          replace hS := hS.env2 (e' := [(0, .slice A4551 l_4550.length c4552), (6, .pointer A4888), (8, .slice A4569 x4571.length c4570), (11, ptr b4608 0), (12, ptr b4611 0), (13, .int .i64 i4898), (17, .int .i64 x4910), (96, .bool true)]) ⟨rfl, rfl, rfl, rfl, rfl, rfl, rfl, rfl, trivial⟩
          refine then_n ?_
          exact hJ4917 _ _ ⟨true, hS.to [2, 3, 1, 0] (by kernel_rfl) ⟨rfl, rfl, rfl, rfl, rfl, rfl, rfl, rfl, trivial⟩, hM⟩
         ·refine draw_begin (vals := [some (.int .i64 x4901), some (.int .i64 x4909), some (.bool false), some (.bool false), some (.int .i64 x4902), some (.int .i64 x4910), some (.bool false), some (.bool false), some (.bool false), some (ptr b4608 0), none, some (ptr b4611 0), some (ptr b4611 0), some (ptr b4611 1), some (.int .i64 at_4911), none, none]) hS mixed rfl ?_
          intro l w ho hcl hA hst
          refine phq hA hst ho hcl navail nmust 10 [0, 1, 2, 3, 4, 5, 6, 7, 8, 9, 11, 12, 13, 14] rfl rfl rfl rfl rfl (by exact ⟨nR rfl rfl rfl rfl rfl (by exact ovE (mv rfl) rfl), nR rfl rfl rfl rfl rfl (by exact ovE (mv rfl) rfl), nR rfl rfl rfl rfl rfl (by exact ovE (bin rfl rfl rfl) (congrArg Value.bool hb4914)), nR rfl rfl rfl rfl rfl (by exact ovE (mv rfl) rfl), nW rfl rfl rfl rfl rfl rfl rfl rfl (by exact ovE (mv rfl) rfl), nW rfl rfl rfl rfl rfl rfl rfl rfl (by exact ovE (mv rfl) rfl), nW rfl rfl rfl rfl rfl rfl rfl rfl (by exact ovE (bin rfl rfl rfl) (congrArg Value.bool hb4915)), nR rfl rfl rfl rfl rfl (by exact ovE (pk rfl rfl rfl) rfl), nR rfl rfl rfl rfl rfl (by exact ovE (mv rfl) rfl), nW rfl rfl rfl rfl rfl rfl rfl rfl (by exact ovE (mv rfl) rfl), nW rfl rfl rfl rfl rfl rfl rfl rfl (by exact ovE (mv rfl) rfl), nW rfl rfl rfl rfl rfl rfl rfl rfl (by exact ovE (nck rfl) rfl), nW rfl rfl rfl rfl rfl rfl rfl rfl (by exact ovE (fad rfl Try.runUnderlying37 rfl Try.sizeOf3 rfl) rfl), nW rfl rfl rfl rfl rfl rfl rfl rfl (by exact ovE (ldb 0 rfl h4913 rfl rfl Try.isAgg3) rfl), trivial⟩) fun D l a w ho hcl hav hpre hm hE hk hA hst => ?_
          have hS := (Ss.mk hE hst).env2 (e' := [(88, .bool false), (89, ptr b4608 0)]) ⟨rfl, rfl, trivial⟩
          refine op_of_nth rfl <| unguard hS rfl rfl rfl rfl <| s_call hS rfl Try.call19 (bits_Reader_At_c hG K (T_bits_Reader.mk (T_bits_place.mk at_4903) s4555) b4608 f4904 h4907 (hS.st.part 1 [1, 0, 2, 3] (by kernel_rfl)) (wp_bind hM) (fun  w hM  hst => s_back hS.ev hst.appF rfl fun hS => ?_))
          replace hS : Ss _ _ _ H [f4904, f4912, f4906, f4572] F _ _ := hS
          refine wpList_nil (then_n ?_)
          replace hst := hS.st
          obtain ⟨hcl, hmust, hav2, hA⟩ := dn (vals' := [some (.int .i64 x4901), some (.int .i64 x4909), some (.bool false), some (.bool false), some (.int .i64 x4902), some (.int .i64 x4910), some (.bool false), some (.bool false), some (.bool false), some (ptr b4608 0), some (.int .i64 at_4903), some (ptr b4611 0), some (ptr b4611 0), some (ptr b4611 1), some (.int .i64 at_4911), some (.bool (at_4903 != at_4911)), some (.bool (at_4903 != at_4911))]) 10 [(8, 10), (9, 10), (3, 8), (7, 8), (2, 3), (6, 7), (0, 2), (1, 2), (4, 6), (5, 6)] hA hcl hav hm hpre hk rfl rfl rfl rfl rfl rfl rfl
          clear hm hav
          refine phqE hA hst ho hcl hmust [11, 12, 13, 14, 15, 16] rfl rfl rfl (by exact ⟨nW rfl rfl rfl rfl rfl rfl rfl rfl (by exact ovE (mv rfl) rfl), nW rfl rfl rfl rfl rfl rfl rfl rfl (by exact ovE (nck rfl) rfl), nW rfl rfl rfl rfl rfl rfl rfl rfl (by exact ovE (fad rfl Try.runUnderlying37 rfl Try.sizeOf3 rfl) rfl), nW rfl rfl rfl rfl rfl rfl rfl rfl (by exact ovE (ldb 1 rfl h4913 rfl rfl Try.isAgg3) rfl), nW rfl rfl rfl rfl rfl rfl rfl rfl (by exact ovE (bin rfl rfl rfl) rfl), nR rfl rfl rfl rfl rfl (by exact ovE (pk rfl rfl rfl) rfl), trivial⟩) fun a w hS => ?_
          replace hS := hS.env2 (e' := [(0, .slice A4551 l_4550.length c4552), (6, .pointer A4888), (8, .slice A4569 x4571.length c4570), (11, ptr b4608 0), (12, ptr b4611 0), (13, .int .i64 i4898), (17, .int .i64 x4910), (96, .bool (at_4903 != at_4911))]) ⟨rfl, rfl, rfl, rfl, rfl, rfl, rfl, rfl, trivial⟩
          refine then_n ?_
          exact hJ4917 _ _ ⟨(at_4903 != at_4911), hS.to [2, 3, 0, 1] (by kernel_rfl) ⟨rfl, rfl, rfl, rfl, rfl, rfl, rfl, rfl, trivial⟩, hM⟩
       ·intro a w hI
        obtain ⟨v4916, hS, hM⟩ := hI
        rw [mortiselaw06_HuffReads.j5] at hM
        refine s_cond hS rfl hM (fun hb4918 hM => ?_) (fun hb4918 hM => ?_)
        ·refine wp_seq ?_
         refine wp_region_list <| st1 hS (asg rfl) rfl fun a w hS => wpList_nil <| then_n <| wp_ret <| then_ret (blk_ret (then_ret (then_ret (blk_ret (then_ret ?_)))))
         exact s_ret (rs := [4]) hS rfl rfl (hret false w (wp_ok hM) (hS.st.pick [] (by kernel_rfl)))
        ·refine wp_skip ?_
         refine then_n <| wp_seq <| wp_region_list <| st1 hS (mv rfl) rfl fun a w hS => st1 hS (bin rfl rfl rfl) rfl fun a w hS => wpList_nil <| then_n <| s_cond hS rfl hM (fun hb4919 hM => ?_) (fun hb4919 hM => ?_)
         ·refine wp_seq ?_
          refine wp_region_list <| st1 hS (asg rfl) rfl fun a w hS => wpList_nil <| then_n <| wp_ret <| blk_ret (then_ret (then_ret (blk_ret (then_ret ?_))))
          exact s_ret (rs := [4]) hS rfl rfl (hret true w (wp_ok hM) (hS.st.pick [] (by kernel_rfl)))
         ·refine wp_skip ?_
          refine blk_n (then_n ?_)
          refine wp_region_list <| st1 hS (mv rfl) rfl fun a w hS => st1 hS (bin rfl rfl rfl) rfl fun a w hS => st1x (v := Value.int .i64) (x0 := (w64 (i4898 + (1 : Int)))) hS (asg rfl) rfl fun i4920 a w hz hS => ?_
          have hM := lt_to hz hM; clear hz
          refine wpList_nil <| then_n ?_
          exact hJ4921 _ _ ⟨A4888, t4905, f4906, at_4903, f4904, at_4911, f4912, i4920, hS.to [0, 1, 2, 3] (by kernel_rfl) ⟨rfl, rfl, rfl, rfl, rfl, rfl, trivial⟩, h4908, h4907, h4913, hM⟩
      ·refine wp_exit ?_
       refine then_ex (then_ex (blk_same (then_n ?_)))
       refine wp_seq <| wp_region_list <| st1 hS (asg rfl) rfl fun a w hS => wpList_nil <| then_n <| wp_ret ?_
       exact s_ret (rs := [4]) hS rfl rfl (hret true w (wp_ok hM) (hS.st.pick [] (by kernel_rfl)))

theorem mortiseref06_Often_c {H : Imm} {F : List Frag} {w : World} {R : Ending → World → Prop} {kr : Bool → Prop} {kp : Value → Prop} (hG : Gl H) (K : Nat) (often4947 : List Int) (most4952 : Int) (A4948 : Option Addr) (c4949 : Nat) (hr4950 : Rdl H [] F (ci .i64) A4948 often4947) (hc4951 : often4947.length ≤ c4949)
    (hS : St w H [] F) (hm : (mortiseref06_Often.m K often4947 most4952).wp kr kp)
    (hret : ∀ (x4969 : Bool) (w : World), kr x4969 → St w H [] F → R (.returned (.bool x4969)) w) :
    Calls Try.prog 21 ⟨[.slice A4948 often4947.length c4949, .int .i64 most4952]⟩ w R := by
 refine enter Try.func21 rfl Try.ntmps21 rfl hS fun a w hS => ?_
 have hM := hm; clear hm
 rw [mortiseref06_Often.m] at hM
 refine wp_seq <| wp_region_list <| st1 hS (asg rfl) rfl fun a w hS => wpList_nil <| then_n <| wp_seq <| wp_seq <| wp_region_list <| st1 hS (mv rfl) rfl fun a w hS => st1 hS (bin rfl rfl rfl) rfl fun a w hS => st1 hS (mv rfl) rfl fun a w hS => g_op 2 false 9 (b := (decide (most4952 < (1 : Int)))) (r := (decide (most4952 > (15 : Int)))) hS rfl rfl rfl rfl rfl rfl rfl (fun hb a w hS K hK => ?_) rfl fun a w hS => ?_
 ·refine st1g hS rfl rfl rfl hb (mv rfl) rfl fun a w hS => ?_
  refine st1g hS rfl rfl rfl hb (bin rfl rfl rfl) rfl fun a w hS => ?_
  exact wpList_nil (hK _ _ (hS.up 2 rfl rfl))
 refine st1 hS (mv rfl) rfl fun a w hS => g_op 3 false 13 (b := ((decide (most4952 < (1 : Int))) || (decide (most4952 > (15 : Int))))) (r := (decide ((often4947.length : Int) > (320 : Int)))) hS rfl rfl rfl rfl rfl rfl rfl (fun hb a w hS K hK => ?_) rfl fun a w hS => ?_
 ·refine st1g hS rfl rfl rfl hb (mv rfl) rfl fun a w hS => ?_
  refine st1g hS rfl rfl rfl hb (lenV rfl Try.runUnderlying22) rfl fun a w hS => st1g hS rfl rfl rfl hb (bin rfl rfl rfl) rfl fun a w hS => ?_
  exact wpList_nil (hK _ _ (hS.up 3 rfl rfl))
 refine wpList_nil <| then_n <| s_cond hS rfl hM (fun hb4953 hM => ?_) (fun hb4953 hM => ?_)
 ·refine wp_seq ?_
  refine wp_region_list <| st1 hS (asg rfl) rfl fun a w hS => wpList_nil <| then_n <| wp_ret <| then_ret ?_
  exact s_ret (rs := [4]) hS rfl rfl (hret false w (wp_ok hM) (hS.st.pick [] (by kernel_rfl)))
 ·refine wp_skip ?_
  refine then_n <| wp_seq <| wp_region_list <| st1 hS (asg rfl) rfl fun a w hS => wpList_nil <| then_n <| seq_joinJ (fun a w => ∃ (n_4965 : Int), Ss 48 [] [(1, .int .i64 most4952), (5, .int .i64 n_4965)] H [] F a w ∧ (mortiseref06_Often.j2 K most4952 n_4965).wp kr kp) (fun J4966 hJ4966 => ?_) ?_
  ·refine wp_seq ?_
   refine wp_region_list <| st1 hS (asg rfl) rfl fun a w hS => wpList_nil <| then_n <| wp_block <| s_loopJ (fun k4956 a w => ∃ (n_4954 : Int) (i4955 : Int), Ss 48 [] [(0, .slice A4948 often4947.length c4949), (1, .int .i64 most4952), (5, .int .i64 n_4954), (6, .int .i64 i4955)] H [] F a w ∧ (mortiseref06_Often.l1 K often4947 most4952 k4956 n_4954 i4955).wp kr kp) K ?_ ?_ ?_
   ·exact ⟨(0 : Int), (0 : Int), hS.to [] (by kernel_rfl) ⟨rfl, rfl, rfl, rfl, trivial⟩, hM⟩
   ·intro a w hI; obtain ⟨_, _, _, hM⟩ := hI; exact wp_fail hM
   ·intro k4956 a w hI J4964 hJ4964
    obtain ⟨n_4954, i4955, hS, hM⟩ := hI
    rw [mortiseref06_Often.l1] at hM
    refine wp_seq <| wp_seq <| wp_region_list <| st1 hS (mv rfl) rfl fun a w hS => st1 hS (mv rfl) rfl fun a w hS => st1 hS (lenV rfl Try.runUnderlying22) rfl fun a w hS => st1 hS (bin rfl rfl rfl) rfl fun a w hS => wpList_nil <| then_n <| s_cond hS rfl hM (fun hb4957 hM => ?_) (fun hb4957 hM => ?_)
    ·refine wp_skip ?_
     refine then_n <| wp_seq <| wp_block <| wp_seq <| wp_seq <| wp_region_list <| st1 hS (mv rfl) rfl fun a w hS => st1 hS (mv rfl) rfl fun a w hS => ?_
     obtain ⟨hk4958, hM⟩ := wp_chk hM
     refine st1 hS (ixV rfl rfl Try.runUnderlying22 Try.sizeOf3 hr4950.wk (fun _ => rfl) rfl hk4958) rfl fun a w hS => st1 hS (ldV0 rfl hr4950.wk (fun _ => rfl) hk4958 rfl Try.isAgg3) rfl fun a w hS => st1 hS (bin rfl rfl rfl) rfl fun a w hS => st1 hS (mv rfl) rfl fun a w hS => g_op 5 false 29 (b := (decide ((rd often4947 i4955) < (0 : Int)))) (r := (decide ((rd often4947 i4955) > (1099511627776 : Int)))) hS rfl rfl rfl rfl rfl rfl rfl (fun hb a w hS K hK => ?_) rfl fun a w hS => ?_
     ·refine st1g hS rfl rfl rfl hb (mv rfl) rfl fun a w hS => ?_
      refine st1g hS rfl rfl rfl hb (mv rfl) rfl fun a w hS => st1g hS rfl rfl rfl hb (ixV rfl rfl Try.runUnderlying22 Try.sizeOf3 hr4950.wk (fun _ => rfl) rfl hk4958) rfl fun a w hS => st1g hS rfl rfl rfl hb (ldV0 rfl hr4950.wk (fun _ => rfl) hk4958 rfl Try.isAgg3) rfl fun a w hS => st1g hS rfl rfl rfl hb (bin rfl rfl rfl) rfl fun a w hS => ?_
      exact wpList_nil (hK _ _ (hS.up 5 rfl rfl))
     refine wpList_nil <| then_n <| s_cond hS rfl hM (fun hb4959 hM => ?_) (fun hb4959 hM => ?_)
     ·refine wp_seq ?_
      refine wp_region_list <| st1 hS (asg rfl) rfl fun a w hS => wpList_nil <| then_n <| wp_ret <| then_ret (blk_ret (then_ret (then_ret (blk_ret (then_ret ?_)))))
      exact s_ret (rs := [4]) hS rfl rfl (hret false w (wp_ok hM) (hS.st.pick [] (by kernel_rfl)))
     ·refine wp_skip ?_
      refine then_n <| wp_seq <| wp_region_list <| st1 hS (mv rfl) rfl fun a w hS => st1 hS (mv rfl) rfl fun a w hS => st1 hS (ixV rfl rfl Try.runUnderlying22 Try.sizeOf3 hr4950.wk (fun _ => rfl) rfl hk4958) rfl fun a w hS => st1 hS (ldV0 rfl hr4950.wk (fun _ => rfl) hk4958 rfl Try.isAgg3) rfl fun a w hS => st1 hS (bin rfl rfl rfl) rfl fun a w hS => wpList_nil <| then_n <| s_cond hS rfl hM (fun hb4960 hM => ?_) (fun hb4960 hM => ?_)
      ·refine wp_region_list ?_
       refine st1 hS (mv rfl) rfl fun a w hS => st1 hS (bin rfl rfl rfl) rfl fun a w hS => st1x (v := Value.int .i64) (x0 := (w64 (n_4954 + (1 : Int)))) hS (asg rfl) rfl fun n_4961 a w hz hS => ?_
       have hM := lt_to hz hM; clear hz
       refine wpList_nil <| blk_n (then_n ?_)
       refine wp_region_list <| st1 hS (mv rfl) rfl fun a w hS => st1 hS (bin rfl rfl rfl) rfl fun a w hS => st1x (v := Value.int .i64) (x0 := (w64 (i4955 + (1 : Int)))) hS (asg rfl) rfl fun i4962 a w hz hS => ?_
       have hM := lt_to hz hM; clear hz
       refine wpList_nil <| then_n ?_
       exact hJ4964 _ _ ⟨n_4961, i4962, hS.to [] (by kernel_rfl) ⟨rfl, rfl, rfl, rfl, trivial⟩, hM⟩
      ·refine wp_skip ?_
       refine blk_n (then_n ?_)
       refine wp_region_list <| st1 hS (mv rfl) rfl fun a w hS => st1 hS (bin rfl rfl rfl) rfl fun a w hS => st1x (v := Value.int .i64) (x0 := (w64 (i4955 + (1 : Int)))) hS (asg rfl) rfl fun i4963 a w hz hS => ?_
       have hM := lt_to hz hM; clear hz
       refine wpList_nil <| then_n ?_
       exact hJ4964 _ _ ⟨n_4954, i4963, hS.to [] (by kernel_rfl) ⟨rfl, rfl, rfl, rfl, trivial⟩, hM⟩
    ·refine wp_exit ?_
     refine then_ex (then_ex (blk_same (then_n ?_)))
     exact hJ4966 _ _ ⟨n_4954, hS.to [] (by kernel_rfl) ⟨rfl, rfl, trivial⟩, hM⟩
  ·intro a w hI
   obtain ⟨n_4965, hS, hM⟩ := hI
   rw [mortiseref06_Often.j2] at hM
   refine wp_seq <| wp_region_list <| st1 hS (mv rfl) rfl fun a w hS => st1 hS (mv rfl) rfl fun a w hS => st1 hS (cvi rfl Try.runUnderlying3 Try.runUnderlying46) rfl fun a w hS => ?_
   obtain ⟨hk4967, hM⟩ := wp_chk hM
   refine st1 hS (shl rfl rfl hk4967) rfl fun a w hS => st1 hS (bin rfl rfl rfl) rfl fun a w hS => st1x (v := Value.bool) (x0 := (decide (n_4965 ≤ (ishl .i64 (1 : Int) (wr .u64 most4952))))) hS (asg rfl) rfl fun v4968 a w hz hS => ?_
   have hM := lt_to hz hM; clear hz
   refine wpList_nil <| then_n <| wp_ret ?_
   exact s_ret (rs := [4]) hS rfl rfl (hret v4968 w (wp_ok hM) (hS.st.pick [] (by kernel_rfl)))

theorem mortiseref06_Least_c {H : Imm} {F : List Frag} {w : World} {R : Ending → World → Prop} {kr : Int → Prop} {kp : Value → Prop} (hG : Gl H) (K : Nat) (often5006 : List Int) (most5011 : Int) (A5007 : Option Addr) (c5008 : Nat) (hr5009 : Rdl H [] F (ci .i64) A5007 often5006) (hc5010 : often5006.length ≤ c5008)
    (hS : St w H [] F) (hm : (mortiseref06_Least.m K often5006 most5011).wp kr kp)
    (hret : ∀ (x5386 : Int) (w : World), kr x5386 → St w H [] F → R (.returned (.int .i64 x5386)) w) :
    Calls Try.prog 22 ⟨[.slice A5007 often5006.length c5008, .int .i64 most5011]⟩ w R := by
 refine enter Try.func22 rfl Try.ntmps22 rfl hS fun a w hS => ?_
 have hM := hm; clear hm
 rw [mortiseref06_Least.m] at hM
 refine wp_seq <| wp_region_list <| st1 hS (asg rfl) rfl fun a w hS => wpList_nil <| then_n <| wp_seq <| wp_region_list <| st1 hS (asg rfl) rfl fun a w hS => wpList_nil <| then_n <| wp_seq <| wp_region_list <| st1 hS (mv rfl) rfl fun a w hS => st1 hS (cvi rfl Try.runUnderlying3 Try.runUnderlying46) rfl fun a w hS => ?_
 obtain ⟨hk5012, hM⟩ := wp_chk hM
 refine st1 hS (shl rfl rfl hk5012) rfl fun a w hS => st1x (v := Value.int .i64) (x0 := (ishl .i64 (1 : Int) (wr .u64 most5011))) hS (asg rfl) rfl fun size5013 a w hz hS => ?_
 have hM := lt_to hz hM; clear hz
 refine wpList_nil <| then_n <| wp_seq <| wp_region_list <| st1 hS (mv rfl) rfl fun a w hS => st1 hS (bin rfl rfl rfl) rfl fun a w hS => ?_
 obtain ⟨hk5014, hM⟩ := wp_chk hM
 refine mkS (g := (ci .i64)) (m := (w64 (size5013 + (1 : Int)))) (0 : Int) hS rfl rfl (by simp) Try.runUnderlying22 X.el3 (fun w => ⟨_, Try.zeroValue3 w, rfl⟩) (fun _ => rfl) rfl rfl hk5014 rfl fun zs5019 w A5015 c5016 f5017 hz hV5018 hS => ?_
 have hM := lt_to hz hM; clear hz
 refine st1 hS (asg rfl) rfl fun a w hS => wpList_nil <| then_n <| seq_joinJ (fun a w => ∃ (best5046 : (List Int)) (f5047 : Frag), Ss 129 [] [(0, .slice A5007 often5006.length c5008), (1, .int .i64 most5011), (5, .int .i64 (4611686018427387904 : Int)), (6, .int .i64 size5013), (7, .slice A5015 best5046.length c5016)] H [f5047] F a w ∧ (Vec 3 (ci .i64) 1 A5015 best5046 c5016 f5047) ∧ (mortiseref06_Least.j2 K often5006 most5011 size5013 best5046).wp kr kp) (fun J5049 hJ5049 => ?_) ?_
 ·refine wp_seq ?_
  refine wp_region_list <| st1 hS (asg rfl) rfl fun a w hS => wpList_nil <| then_n <| wp_block <| s_loopJ (fun k5037 a w => ∃ (best5033 : (List Int)) (f5034 : Frag) (k_5036 : Int), Ss 129 [] [(0, .slice A5007 often5006.length c5008), (1, .int .i64 most5011), (5, .int .i64 (4611686018427387904 : Int)), (6, .int .i64 size5013), (7, .slice A5015 best5033.length c5016), (8, .int .i64 k_5036)] H [f5034] F a w ∧ (Vec 3 (ci .i64) 1 A5015 best5033 c5016 f5034) ∧ (mortiseref06_Least.l1 K often5006 most5011 size5013 k5037 best5033 k_5036).wp kr kp) K ?_ ?_ ?_
  ·exact ⟨zs5019, f5017, (1 : Int), hS.to [0] (by kernel_rfl) ⟨rfl, rfl, rfl, rfl, rfl, rfl, trivial⟩, hV5018, hM⟩
  ·intro a w hI; obtain ⟨_, _, _, _, _, hM⟩ := hI; exact wp_fail hM
  ·intro k5037 a w hI J5045 hJ5045
   obtain ⟨best5033, f5034, k_5036, hS, hV5035, hM⟩ := hI
   rw [mortiseref06_Least.l1] at hM
   refine wp_seq <| wp_seq <| wp_region_list <| st1 hS (mv rfl) rfl fun a w hS => st1 hS (mv rfl) rfl fun a w hS => st1 hS (bin rfl rfl rfl) rfl fun a w hS => wpList_nil <| then_n <| s_cond hS rfl hM (fun hb5038 hM => ?_) (fun hb5038 hM => ?_)
   ·refine wp_skip ?_
    refine then_n <| wp_seq <| wp_block <| wp_region_list <| st1 hS (mv rfl) rfl fun a w hS => st1 hS (mv rfl) rfl fun a w hS => st1 hS (mv rfl) rfl fun a w hS => ?_
    obtain ⟨hk5039, hM⟩ := wp_chk hM
    refine st1 hS (ixV rfl rfl Try.runUnderlying22 Try.sizeOf3 (hV5035.rd (i := 0) rfl) (fun _ => rfl) rfl hk5039) rfl fun a w hS => stV (i := k_5036) (sz := 1) 0 0 ((4611686018427387904 : Int)) hS rfl rfl hV5035 rfl Try.sizeOf3 (one_t3 (4611686018427387904 : Int)) (fun _ => rfl) hk5039 rfl rfl fun zs5042 w f5040 hz hz5043 hV5041 hS => ?_
    have hM := lt_to hz hM; clear hz
    replace hS := hS.re 7 (u := .slice A5015 best5033.length c5016) (v := .slice A5015 zs5042.length c5016) rfl (by rw [hz5043])
    replace hS := hS.re 27 (u := .slice A5015 best5033.length c5016) (v := .slice A5015 zs5042.length c5016) rfl (by rw [hz5043])
    refine wpList_nil <| blk_n (then_n ?_)
    refine wp_region_list <| st1 hS (mv rfl) rfl fun a w hS => st1 hS (bin rfl rfl rfl) rfl fun a w hS => st1x (v := Value.int .i64) (x0 := (w64 (k_5036 + (1 : Int)))) hS (asg rfl) rfl fun k_5044 a w hz hS => ?_
    have hM := lt_to hz hM; clear hz
    refine wpList_nil <| then_n ?_
    exact hJ5045 _ _ ⟨zs5042, f5040, k_5044, hS.to [0] (by kernel_rfl) ⟨rfl, rfl, rfl, rfl, rfl, rfl, trivial⟩, hV5041, hM⟩
   ·refine wp_exit ?_
    refine then_ex (then_ex (blk_same (then_n ?_)))
    exact hJ5049 _ _ ⟨best5033, f5034, hS.to [0] (by kernel_rfl) ⟨rfl, rfl, rfl, rfl, rfl, trivial⟩, hV5035, hM⟩
 ·intro a w hI
  obtain ⟨best5046, f5047, hS, hV5048, hM⟩ := hI
  rw [mortiseref06_Least.j2] at hM
  refine seq_joinJ (fun a w => ∃ (A5370 : Option Addr) (c5371 : Nat) (best5372 : (List Int)) (f5373 : Frag), Ss 129 [] [(6, .int .i64 size5013), (7, .slice A5370 best5372.length c5371)] H [f5373] F a w ∧ (Vec 3 (ci .i64) 1 A5370 best5372 c5371 f5373) ∧ (mortiseref06_Least.j7 K size5013 best5372).wp kr kp) (fun J5375 hJ5375 => ?_) ?_
  ·refine wp_seq ?_
   refine wp_region_list <| st1 hS (asg rfl) rfl fun a w hS => wpList_nil <| then_n <| wp_block <| s_loopJ (fun k5216 a w => ∃ (A5210 : Option Addr) (c5211 : Nat) (best5212 : (List Int)) (f5213 : Frag) (i5215 : Int), Ss 129 [] [(0, .slice A5007 often5006.length c5008), (1, .int .i64 most5011), (5, .int .i64 (4611686018427387904 : Int)), (6, .int .i64 size5013), (7, .slice A5210 best5212.length c5211), (9, .int .i64 i5215)] H [f5213] F a w ∧ (Vec 3 (ci .i64) 1 A5210 best5212 c5211 f5213) ∧ (mortiseref06_Least.l3 K often5006 most5011 size5013 k5216 best5212 i5215).wp kr kp) K ?_ ?_ ?_
   ·exact ⟨A5015, c5016, best5046, f5047, (0 : Int), hS.to [0] (by kernel_rfl) ⟨rfl, rfl, rfl, rfl, rfl, rfl, trivial⟩, hV5048, hM⟩
   ·intro a w hI; obtain ⟨_, _, _, _, _, _, _, hM⟩ := hI; exact wp_fail hM
   ·intro k5216 a w hI J5369 hJ5369
    obtain ⟨A5210, c5211, best5212, f5213, i5215, hS, hV5214, hM⟩ := hI
    rw [mortiseref06_Least.l3] at hM
    refine wp_seq <| wp_seq <| wp_region_list <| st1 hS (mv rfl) rfl fun a w hS => st1 hS (mv rfl) rfl fun a w hS => st1 hS (lenV rfl Try.runUnderlying22) rfl fun a w hS => st1 hS (bin rfl rfl rfl) rfl fun a w hS => wpList_nil <| then_n <| s_cond hS rfl hM (fun hb5217 hM => ?_) (fun hb5217 hM => ?_)
    ·refine wp_skip ?_
     refine then_n <| wp_seq <| wp_block <| wp_seq <| wp_seq <| wp_region_list <| st1 hS (mv rfl) rfl fun a w hS => st1 hS (mv rfl) rfl fun a w hS => ?_
     obtain ⟨hk5218, hM⟩ := wp_chk hM
     refine st1 hS (ixV rfl rfl Try.runUnderlying22 Try.sizeOf3 hr5009.wk (fun _ => rfl) rfl hk5218) rfl fun a w hS => st1 hS (ldV0 rfl hr5009.wk (fun _ => rfl) hk5218 rfl Try.isAgg3) rfl fun a w hS => st1 hS (bin rfl rfl rfl) rfl fun a w hS => wpList_nil <| then_n <| s_cond hS rfl hM (fun hb5219 hM => ?_) (fun hb5219 hM => ?_)
     ·refine wp_exit ?_
      refine then_ex (blk_same (then_n ?_))
      refine wp_region_list <| st1 hS (mv rfl) rfl fun a w hS => st1 hS (bin rfl rfl rfl) rfl fun a w hS => st1x (v := Value.int .i64) (x0 := (w64 (i5215 + (1 : Int)))) hS (asg rfl) rfl fun i5220 a w hz hS => ?_
      have hM := lt_to hz hM; clear hz
      refine wpList_nil <| then_n ?_
      exact hJ5369 _ _ ⟨A5210, c5211, best5212, f5213, i5220, hS.to [0] (by kernel_rfl) ⟨rfl, rfl, rfl, rfl, rfl, rfl, trivial⟩, hV5214, hM⟩
     ·refine wp_skip ?_
      refine then_n <| wp_seq <| wp_region_list <| st1 hS (mv rfl) rfl fun a w hS => st1 hS (bin rfl rfl rfl) rfl fun a w hS => ?_
      obtain ⟨hk5221, hM⟩ := wp_chk hM
      refine mkS (g := (ci .i64)) (m := (w64 (size5013 + (1 : Int)))) (0 : Int) hS rfl rfl (by simp) Try.runUnderlying22 X.el3 (fun w => ⟨_, Try.zeroValue3 w, rfl⟩) (fun _ => rfl) rfl rfl hk5221 rfl fun zs5226 w A5222 c5223 f5224 hz hV5225 hS => ?_
      have hM := lt_to hz hM; clear hz
      refine st1 hS (asg rfl) rfl fun a w hS => wpList_nil <| then_n <| wp_seq <| wp_seq <| wp_region_list <| st1 hS (asg rfl) rfl fun a w hS => wpList_nil <| then_n <| wp_block <| s_loopJ (fun k5302 a w => ∃ (next5298 : (List Int)) (f5299 : Frag) (k_5301 : Int), Ss 129 [] [(0, .slice A5007 often5006.length c5008), (1, .int .i64 most5011), (5, .int .i64 (4611686018427387904 : Int)), (6, .int .i64 size5013), (7, .slice A5210 best5212.length c5211), (9, .int .i64 i5215), (10, .slice A5222 next5298.length c5223), (11, .int .i64 k_5301)] H [f5213, f5299] F a w ∧ (Vec 3 (ci .i64) 1 A5222 next5298 c5223 f5299) ∧ (mortiseref06_Least.l4 K (mortiseref06_Least.l3 K often5006 most5011 size5013 k5216) often5006 most5011 size5013 best5212 i5215 k5302 next5298 k_5301).wp kr kp) K ?_ ?_ ?_
      ·exact ⟨zs5226, f5224, (0 : Int), hS.to [1, 0] (by kernel_rfl) ⟨rfl, rfl, rfl, rfl, rfl, rfl, rfl, rfl, trivial⟩, hV5225, hM⟩
      ·intro a w hI; obtain ⟨_, _, _, _, _, hM⟩ := hI; exact wp_fail hM
      ·intro k5302 a w hI J5368 hJ5368
       obtain ⟨next5298, f5299, k_5301, hS, hV5300, hM⟩ := hI
       rw [mortiseref06_Least.l4] at hM
       refine wp_seq <| wp_seq <| wp_region_list <| st1 hS (mv rfl) rfl fun a w hS => st1 hS (mv rfl) rfl fun a w hS => st1 hS (bin rfl rfl rfl) rfl fun a w hS => wpList_nil <| then_n <| s_cond hS rfl hM (fun hb5303 hM => ?_) (fun hb5303 hM => ?_)
       ·refine wp_skip ?_
        refine then_n <| wp_seq <| wp_block <| wp_seq <| wp_region_list <| st1 hS (mv rfl) rfl fun a w hS => st1 hS (mv rfl) rfl fun a w hS => st1 hS (mv rfl) rfl fun a w hS => ?_
        obtain ⟨hk5305, hM⟩ := wp_chk hM
        refine st1 hS (ixV rfl rfl Try.runUnderlying22 Try.sizeOf3 (hV5300.rd (i := 1) rfl) (fun _ => rfl) rfl hk5305) rfl fun a w hS => stV (i := k_5301) (sz := 1) 1 0 ((4611686018427387904 : Int)) hS rfl rfl hV5300 rfl Try.sizeOf3 (one_t3 (4611686018427387904 : Int)) (fun _ => rfl) hk5305 rfl rfl fun zs5308 w f5306 hz hz5309 hV5307 hS => ?_
        have hM := lt_to hz hM; clear hz
        replace hS := hS.re 10 (u := .slice A5222 next5298.length c5223) (v := .slice A5222 zs5308.length c5223) rfl (by rw [hz5309])
        replace hS := hS.re 50 (u := .slice A5222 next5298.length c5223) (v := .slice A5222 zs5308.length c5223) rfl (by rw [hz5309])
        refine wpList_nil <| then_n <| wp_seq <| wp_region_list <| st1 hS (asg rfl) rfl fun a w hS => wpList_nil <| then_n <| wp_block <| s_loopJ (fun k5343 a w => ∃ (next5339 : (List Int)) (f5340 : Frag) (length5342 : Int), Ss 129 [] [(0, .slice A5007 often5006.length c5008), (1, .int .i64 most5011), (5, .int .i64 (4611686018427387904 : Int)), (6, .int .i64 size5013), (7, .slice A5210 best5212.length c5211), (9, .int .i64 i5215), (10, .slice A5222 next5339.length c5223), (11, .int .i64 k_5301), (12, .int .i64 length5342)] H [f5213, f5340] F a w ∧ (Vec 3 (ci .i64) 1 A5222 next5339 c5223 f5340) ∧ (mortiseref06_Least.l5 K (mortiseref06_Least.l4 K (mortiseref06_Least.l3 K often5006 most5011 size5013 k5216) often5006 most5011 size5013 best5212 i5215 k5302) often5006 most5011 best5212 i5215 k_5301 k5343 next5339 length5342).wp kr kp) K ?_ ?_ ?_
        ·exact ⟨zs5308, f5306, (1 : Int), hS.to [0, 1] (by kernel_rfl) ⟨rfl, rfl, rfl, rfl, rfl, rfl, rfl, rfl, rfl, trivial⟩, hV5307, hM⟩
        ·intro a w hI; obtain ⟨_, _, _, _, _, hM⟩ := hI; exact wp_fail hM
        ·intro k5343 a w hI J5367 hJ5367
         obtain ⟨next5339, f5340, length5342, hS, hV5341, hM⟩ := hI
         rw [mortiseref06_Least.l5] at hM
         refine wp_seq <| wp_seq <| wp_region_list <| st1 hS (mv rfl) rfl fun a w hS => st1 hS (mv rfl) rfl fun a w hS => st1 hS (bin rfl rfl rfl) rfl fun a w hS => wpList_nil <| then_n <| s_cond hS rfl hM (fun hb5344 hM => ?_) (fun hb5344 hM => ?_)
         ·refine wp_skip ?_
          refine then_n <| wp_seq <| wp_block <| wp_seq <| wp_region_list <| st1 hS (mv rfl) rfl fun a w hS => st1 hS (mv rfl) rfl fun a w hS => st1 hS (bin rfl rfl rfl) rfl fun a w hS => st1 hS (cvi rfl Try.runUnderlying3 Try.runUnderlying46) rfl fun a w hS => ?_
          obtain ⟨hk5346, hM⟩ := wp_chk hM
          refine st1 hS (shl rfl rfl hk5346) rfl fun a w hS => st1x (v := Value.int .i64) (x0 := (ishl .i64 (1 : Int) (wr .u64 (w64 (most5011 - length5342))))) hS (asg rfl) rfl fun part5347 a w hz hS => ?_
          have hM := lt_to hz hM; clear hz
          refine wpList_nil <| then_n <| seq_joinJ (fun a w => ∃ (v5354 : Bool), Ss 129 [] [(0, .slice A5007 often5006.length c5008), (1, .int .i64 most5011), (5, .int .i64 (4611686018427387904 : Int)), (6, .int .i64 size5013), (7, .slice A5210 best5212.length c5211), (9, .int .i64 i5215), (10, .slice A5222 next5339.length c5223), (11, .int .i64 k_5301), (12, .int .i64 length5342), (13, .int .i64 part5347), (96, .bool v5354)] H [f5213, f5340] F a w ∧ (mortiseref06_Least.j6 K (mortiseref06_Least.l5 K (mortiseref06_Least.l4 K (mortiseref06_Least.l3 K often5006 most5011 size5013 k5216) often5006 most5011 size5013 best5212 i5215 k5302) often5006 most5011 best5212 i5215 k_5301 k5343) often5006 best5212 i5215 k_5301 next5339 length5342 part5347 v5354).wp kr kp) (fun J5355 hJ5355 => ?_) ?_
          ·refine ifB (b := (decide (part5347 ≤ k_5301))) hM (fun hb5348 hM => ?_) (fun hb5348 hM => ?_)
           ·obtain ⟨hk5350, hM⟩ := wp_chk hM
            refine ifB (b := (decide ((rd best5212 (w64 (k_5301 - part5347))) < (4611686018427387904 : Int)))) hM (fun hb5351 hM => ?_) (fun hb5351 hM => ?_)
            ·obtain ⟨hk5353, hM⟩ := wp_chk hM
             refine draw_begin (vals := [some (.int .i64 part5347), some (.int .i64 k_5301), some (.bool true), some (.bool true), some (.slice A5210 best5212.length c5211), some (.int .i64 k_5301), some (.int .i64 part5347), some (.int .i64 (w64 (k_5301 - part5347))), some (slp A5210 (Int.toNat (w64 (k_5301 - part5347)) * 1)), some (.int .i64 (rd best5212 (w64 (k_5301 - part5347)))), some (.int .i64 (4611686018427387904 : Int)), some (.bool true), some (.bool true), some (.bool true), some (.slice A5210 best5212.length c5211), some (.int .i64 k_5301), some (.int .i64 part5347), some (.int .i64 (w64 (k_5301 - part5347))), some (slp A5210 (Int.toNat (w64 (k_5301 - part5347)) * 1)), some (.int .i64 (rd best5212 (w64 (k_5301 - part5347)))), some (.slice A5007 often5006.length c5008), some (.int .i64 i5215), some (slp A5007 (Int.toNat i5215 * 1)), some (.int .i64 (rd often5006 i5215)), some (.int .i64 length5342), some (.int .i64 (w64 ((rd often5006 i5215) * length5342))), some (.int .i64 (w64 ((rd best5212 (w64 (k_5301 - part5347))) + (w64 ((rd often5006 i5215) * length5342))))), some (.slice A5222 next5339.length c5223), some (.int .i64 k_5301), some (slp A5222 (Int.toNat k_5301 * 1)), some (.int .i64 (rd next5339 k_5301)), some (.bool (decide ((w64 ((rd best5212 (w64 (k_5301 - part5347))) + (w64 ((rd often5006 i5215) * length5342)))) < (rd next5339 k_5301)))), some (.bool (decide ((w64 ((rd best5212 (w64 (k_5301 - part5347))) + (w64 ((rd often5006 i5215) * length5342)))) < (rd next5339 k_5301))))]) hS mixed rfl ?_
             intro l w ho hcl hA hst
             refine phqE hA hst ho hcl nmust [0, 1, 2, 3, 4, 5, 6, 7, 8, 9, 10, 11, 12, 13, 14, 15, 16, 17, 18, 19, 20, 21, 22, 23, 24, 25, 26, 27, 28, 29, 30, 31, 32] rfl rfl rfl (by exact ⟨nR rfl rfl rfl rfl rfl (by exact ovE (mv rfl) rfl), nR rfl rfl rfl rfl rfl (by exact ovE (mv rfl) rfl), nR rfl rfl rfl rfl rfl (by exact ovE (bin rfl rfl rfl) (congrArg Value.bool hb5348)), nR rfl rfl rfl rfl rfl (by exact ovE (mv rfl) rfl), nW rfl rfl rfl rfl rfl rfl rfl rfl (by exact ovE (mv rfl) rfl), nW rfl rfl rfl rfl rfl rfl rfl rfl (by exact ovE (mv rfl) rfl), nW rfl rfl rfl rfl rfl rfl rfl rfl (by exact ovE (mv rfl) rfl), nW rfl rfl rfl rfl rfl rfl rfl rfl (by exact ovE (bin rfl rfl rfl) rfl), nW rfl rfl rfl rfl rfl rfl rfl rfl (by exact ovE (ixV rfl rfl Try.runUnderlying22 Try.sizeOf3 (hV5214.rd (i := 0) rfl) (fun _ => rfl) rfl hk5350) rfl), nW rfl rfl rfl rfl rfl rfl rfl rfl (by exact ovE (ldV0 rfl (hV5214.rd (i := 0) rfl) (fun _ => rfl) hk5350 rfl Try.isAgg3) rfl), nW rfl rfl rfl rfl rfl rfl rfl rfl (by exact ovE (mv rfl) rfl), nW rfl rfl rfl rfl rfl rfl rfl rfl (by exact ovE (bin rfl rfl rfl) (congrArg Value.bool hb5351)), nR rfl rfl rfl rfl rfl (by exact ovE (pk rfl rfl rfl) rfl), nR rfl rfl rfl rfl rfl (by exact ovE (mv rfl) rfl), nW rfl rfl rfl rfl rfl rfl rfl rfl (by exact ovE (mv rfl) rfl), nW rfl rfl rfl rfl rfl rfl rfl rfl (by exact ovE (mv rfl) rfl), nW rfl rfl rfl rfl rfl rfl rfl rfl (by exact ovE (mv rfl) rfl), nW rfl rfl rfl rfl rfl rfl rfl rfl (by exact ovE (bin rfl rfl rfl) rfl), nW rfl rfl rfl rfl rfl rfl rfl rfl (by exact ovE (ixV rfl rfl Try.runUnderlying22 Try.sizeOf3 (hV5214.rd (i := 0) rfl) (fun _ => rfl) rfl hk5350) rfl), nW rfl rfl rfl rfl rfl rfl rfl rfl (by exact ovE (ldV0 rfl (hV5214.rd (i := 0) rfl) (fun _ => rfl) hk5350 rfl Try.isAgg3) rfl), nW rfl rfl rfl rfl rfl rfl rfl rfl (by exact ovE (mv rfl) rfl), nW rfl rfl rfl rfl rfl rfl rfl rfl (by exact ovE (mv rfl) rfl), nW rfl rfl rfl rfl rfl rfl rfl rfl (by exact ovE (ixV rfl rfl Try.runUnderlying22 Try.sizeOf3 hr5009.wk (fun _ => rfl) rfl hk5218) rfl), nW rfl rfl rfl rfl rfl rfl rfl rfl (by exact ovE (ldV0 rfl hr5009.wk (fun _ => rfl) hk5218 rfl Try.isAgg3) rfl), nW rfl rfl rfl rfl rfl rfl rfl rfl (by exact ovE (mv rfl) rfl), nW rfl rfl rfl rfl rfl rfl rfl rfl (by exact ovE (bin rfl rfl rfl) rfl), nW rfl rfl rfl rfl rfl rfl rfl rfl (by exact ovE (bin rfl rfl rfl) rfl), nW rfl rfl rfl rfl rfl rfl rfl rfl (by exact ovE (mv rfl) rfl), nW rfl rfl rfl rfl rfl rfl rfl rfl (by exact ovE (mv rfl) rfl), nW rfl rfl rfl rfl rfl rfl rfl rfl (by exact ovE (ixV rfl rfl Try.runUnderlying22 Try.sizeOf3 (hV5341.rd (i := 1) rfl) (fun _ => rfl) rfl hk5353) rfl), nW rfl rfl rfl rfl rfl rfl rfl rfl (by exact ovE (ldV0 rfl (hV5341.rd (i := 1) rfl) (fun _ => rfl) hk5353 rfl Try.isAgg3) rfl), nW rfl rfl rfl rfl rfl rfl rfl rfl (by exact ovE (bin rfl rfl rfl) rfl), nR rfl rfl rfl rfl rfl (by exact ovE (pk rfl rfl rfl) rfl), trivial⟩) fun a w hS => ?_
             replace hS := hS.env2 (e' := [(0, .slice A5007 often5006.length c5008), (1, .int .i64 most5011), (5, .int .i64 (4611686018427387904 : Int)), (6, .int .i64 size5013), (7, .slice A5210 best5212.length c5211), (9, .int .i64 i5215), (10, .slice A5222 next5339.length c5223), (11, .int .i64 k_5301), (12, .int .i64 length5342), (13, .int .i64 part5347), (96, .bool (decide ((w64 ((rd best5212 (w64 (k_5301 - part5347))) + (w64 ((rd often5006 i5215) * length5342)))) < (rd next5339 k_5301))))]) ⟨rfl, rfl, rfl, rfl, rfl, rfl, rfl, rfl, rfl, rfl, rfl, trivial⟩
             refine then_n ?_
             exact hJ5355 _ _ ⟨(decide ((w64 ((rd best5212 (w64 (k_5301 - part5347))) + (w64 ((rd often5006 i5215) * length5342)))) < (rd next5339 k_5301))), hS.to [0, 1] (by kernel_rfl) ⟨rfl, rfl, rfl, rfl, rfl, rfl, rfl, rfl, rfl, rfl, rfl, trivial⟩, hM⟩
            ·refine draw_begin (vals := [some (.int .i64 part5347), some (.int .i64 k_5301), some (.bool true), some (.bool true), some (.slice A5210 best5212.length c5211), some (.int .i64 k_5301), some (.int .i64 part5347), some (.int .i64 (w64 (k_5301 - part5347))), some (slp A5210 (Int.toNat (w64 (k_5301 - part5347)) * 1)), some (.int .i64 (rd best5212 (w64 (k_5301 - part5347)))), some (.int .i64 (4611686018427387904 : Int)), some (.bool false), some (.bool false), some (.bool false), some (undef), some (undef), some (undef), some (undef), some (undef), some (undef), some (undef), some (undef), some (undef), some (undef), some (undef), some (undef), some (undef), some (undef), some (undef), some (undef), some (undef), some (undef), some (.bool false)]) hS mixed rfl ?_
             intro l w ho hcl hA hst
             refine phqE hA hst ho hcl nmust [0, 1, 2, 3, 4, 5, 6, 7, 8, 9, 10, 11, 12, 13, 14, 15, 16, 17, 18, 19, 20, 21, 22, 23, 24, 25, 26, 27, 28, 29, 30, 31, 32] rfl rfl rfl (by exact ⟨nR rfl rfl rfl rfl rfl (by exact ovE (mv rfl) rfl), nR rfl rfl rfl rfl rfl (by exact ovE (mv rfl) rfl), nR rfl rfl rfl rfl rfl (by exact ovE (bin rfl rfl rfl) (congrArg Value.bool hb5348)), nR rfl rfl rfl rfl rfl (by exact ovE (mv rfl) rfl), nW rfl rfl rfl rfl rfl rfl rfl rfl (by exact ovE (mv rfl) rfl), nW rfl rfl rfl rfl rfl rfl rfl rfl (by exact ovE (mv rfl) rfl), nW rfl rfl rfl rfl rfl rfl rfl rfl (by exact ovE (mv rfl) rfl), nW rfl rfl rfl rfl rfl rfl rfl rfl (by exact ovE (bin rfl rfl rfl) rfl), nW rfl rfl rfl rfl rfl rfl rfl rfl (by exact ovE (ixV rfl rfl Try.runUnderlying22 Try.sizeOf3 (hV5214.rd (i := 0) rfl) (fun _ => rfl) rfl hk5350) rfl), nW rfl rfl rfl rfl rfl rfl rfl rfl (by exact ovE (ldV0 rfl (hV5214.rd (i := 0) rfl) (fun _ => rfl) hk5350 rfl Try.isAgg3) rfl), nW rfl rfl rfl rfl rfl rfl rfl rfl (by exact ovE (mv rfl) rfl), nW rfl rfl rfl rfl rfl rfl rfl rfl (by exact ovE (bin rfl rfl rfl) (congrArg Value.bool hb5351)), nR rfl rfl rfl rfl rfl (by exact ovE (pk rfl rfl rfl) rfl), nR rfl rfl rfl rfl rfl (by exact ovE (mv rfl) rfl), nS rfl rfl rfl rfl rfl rfl rfl rfl rfl, nS rfl rfl rfl rfl rfl rfl rfl rfl rfl, nS rfl rfl rfl rfl rfl rfl rfl rfl rfl, nS rfl rfl rfl rfl rfl rfl rfl rfl rfl, nS rfl rfl rfl rfl rfl rfl rfl rfl rfl, nS rfl rfl rfl rfl rfl rfl rfl rfl rfl, nS rfl rfl rfl rfl rfl rfl rfl rfl rfl, nS rfl rfl rfl rfl rfl rfl rfl rfl rfl, nS rfl rfl rfl rfl rfl rfl rfl rfl rfl, nS rfl rfl rfl rfl rfl rfl rfl rfl rfl, nS rfl rfl rfl rfl rfl rfl rfl rfl rfl, nS rfl rfl rfl rfl rfl rfl rfl rfl rfl, nS rfl rfl rfl rfl rfl rfl rfl rfl rfl, nS rfl rfl rfl rfl rfl rfl rfl rfl rfl, nS rfl rfl rfl rfl rfl rfl rfl rfl rfl, nS rfl rfl rfl rfl rfl rfl rfl rfl rfl, nS rfl rfl rfl rfl rfl rfl rfl rfl rfl, nS rfl rfl rfl rfl rfl rfl rfl rfl rfl, nR rfl rfl rfl rfl rfl (by exact ovE (pk rfl rfl rfl) rfl), trivial⟩) fun a w hS => ?_
             replace hS := hS.env2 (e' := [(0, .slice A5007 often5006.length c5008), (1, .int .i64 most5011), (5, .int .i64 (4611686018427387904 : Int)), (6, .int .i64 size5013), (7, .slice A5210 best5212.length c5211), (9, .int .i64 i5215), (10, .slice A5222 next5339.length c5223), (11, .int .i64 k_5301), (12, .int .i64 length5342), (13, .int .i64 part5347), (96, .bool false)]) ⟨rfl, rfl, rfl, rfl, rfl, rfl, rfl, rfl, rfl, rfl, rfl, trivial⟩
             refine then_n ?_
             exact hJ5355 _ _ ⟨false, hS.to [0, 1] (by kernel_rfl) ⟨rfl, rfl, rfl, rfl, rfl, rfl, rfl, rfl, rfl, rfl, rfl, trivial⟩, hM⟩
           ·refine draw_begin (vals := [some (.int .i64 part5347), some (.int .i64 k_5301), some (.bool false), some (.bool false), some (undef), some (undef), some (undef), some (undef), some (undef), some (undef), some (undef), some (undef), some (.bool false), some (.bool false), some (undef), some (undef), some (undef), some (undef), some (undef), some (undef), some (undef), some (undef), some (undef), some (undef), some (undef), some (undef), some (undef), some (undef), some (undef), some (undef), some (undef), some (undef), some (.bool false)]) hS mixed rfl ?_
            intro l w ho hcl hA hst
            refine phqE hA hst ho hcl nmust [0, 1, 2, 3, 4, 5, 6, 7, 8, 9, 10, 11, 12, 13, 14, 15, 16, 17, 18, 19, 20, 21, 22, 23, 24, 25, 26, 27, 28, 29, 30, 31, 32] rfl rfl rfl (by exact ⟨nR rfl rfl rfl rfl rfl (by exact ovE (mv rfl) rfl), nR rfl rfl rfl rfl rfl (by exact ovE (mv rfl) rfl), nR rfl rfl rfl rfl rfl (by exact ovE (bin rfl rfl rfl) (congrArg Value.bool hb5348)), nR rfl rfl rfl rfl rfl (by exact ovE (mv rfl) rfl), nS rfl rfl rfl rfl rfl rfl rfl rfl rfl, nS rfl rfl rfl rfl rfl rfl rfl rfl rfl, nS rfl rfl rfl rfl rfl rfl rfl rfl rfl, nS rfl rfl rfl rfl rfl rfl rfl rfl rfl, nS rfl rfl rfl rfl rfl rfl rfl rfl rfl, nS rfl rfl rfl rfl rfl rfl rfl rfl rfl, nS rfl rfl rfl rfl rfl rfl rfl rfl rfl, nS rfl rfl rfl rfl rfl rfl rfl rfl rfl, nR rfl rfl rfl rfl rfl (by exact ovE (pk rfl rfl rfl) rfl), nR rfl rfl rfl rfl rfl (by exact ovE (mv rfl) rfl), nS rfl rfl rfl rfl rfl rfl rfl rfl rfl, nS rfl rfl rfl rfl rfl rfl rfl rfl rfl, nS rfl rfl rfl rfl rfl rfl rfl rfl rfl, nS rfl rfl rfl rfl rfl rfl rfl rfl rfl, nS rfl rfl rfl rfl rfl rfl rfl rfl rfl, nS rfl rfl rfl rfl rfl rfl rfl rfl rfl, nS rfl rfl rfl rfl rfl rfl rfl rfl rfl, nS rfl rfl rfl rfl rfl rfl rfl rfl rfl, nS rfl rfl rfl rfl rfl rfl rfl rfl rfl, nS rfl rfl rfl rfl rfl rfl rfl rfl rfl, nS rfl rfl rfl rfl rfl rfl rfl rfl rfl, nS rfl rfl rfl rfl rfl rfl rfl rfl rfl, nS rfl rfl rfl rfl rfl rfl rfl rfl rfl, nS rfl rfl rfl rfl rfl rfl rfl rfl rfl, nS rfl rfl rfl rfl rfl rfl rfl rfl rfl, nS rfl rfl rfl rfl rfl rfl rfl rfl rfl, nS rfl rfl rfl rfl rfl rfl rfl rfl rfl, nS rfl rfl rfl rfl rfl rfl rfl rfl rfl, nR rfl rfl rfl rfl rfl (by exact ovE (pk rfl rfl rfl) rfl), trivial⟩) fun a w hS => ?_
            replace hS := hS.env2 (e' := [(0, .slice A5007 often5006.length c5008), (1, .int .i64 most5011), (5, .int .i64 (4611686018427387904 : Int)), (6, .int .i64 size5013), (7, .slice A5210 best5212.length c5211), (9, .int .i64 i5215), (10, .slice A5222 next5339.length c5223), (11, .int .i64 k_5301), (12, .int .i64 length5342), (13, .int .i64 part5347), (96, .bool false)]) ⟨rfl, rfl, rfl, rfl, rfl, rfl, rfl, rfl, rfl, rfl, rfl, trivial⟩
            refine then_n ?_
            exact hJ5355 _ _ ⟨false, hS.to [0, 1] (by kernel_rfl) ⟨rfl, rfl, rfl, rfl, rfl, rfl, rfl, rfl, rfl, rfl, rfl, trivial⟩, hM⟩
          ·intro a w hI
           obtain ⟨v5354, hS, hM⟩ := hI
           rw [mortiseref06_Least.j6] at hM
           refine s_cond hS rfl hM (fun hb5356 hM => ?_) (fun hb5356 hM => ?_)
           ·obtain ⟨hk5358, hM⟩ := wp_chk hM
            obtain ⟨hk5360, hM⟩ := wp_chk hM
            refine draw_begin (vals := [some (.slice A5222 next5339.length c5223), some (.int .i64 k_5301), some (.slice A5210 best5212.length c5211), some (.int .i64 k_5301), some (.int .i64 part5347), some (.int .i64 (w64 (k_5301 - part5347))), some (slp A5210 (Int.toNat (w64 (k_5301 - part5347)) * 1)), some (.int .i64 (rd best5212 (w64 (k_5301 - part5347)))), some (.slice A5007 often5006.length c5008), some (.int .i64 i5215), some (slp A5007 (Int.toNat i5215 * 1)), some (.int .i64 (rd often5006 i5215)), some (.int .i64 length5342), some (.int .i64 (w64 ((rd often5006 i5215) * length5342))), some (.int .i64 (w64 ((rd best5212 (w64 (k_5301 - part5347))) + (w64 ((rd often5006 i5215) * length5342))))), some (slp A5222 (Int.toNat k_5301 * 1)), none]) hS mixed rfl ?_
            intro l w ho hcl hA hst
            refine phq hA hst ho hcl navail nmust 16 [0, 1, 2, 3, 4, 5, 6, 7, 8, 9, 10, 11, 12, 13, 14, 15] rfl rfl rfl rfl rfl (by exact ⟨nR rfl rfl rfl rfl rfl (by exact ovE (mv rfl) rfl), nR rfl rfl rfl rfl rfl (by exact ovE (mv rfl) rfl), nR rfl rfl rfl rfl rfl (by exact ovE (mv rfl) rfl), nR rfl rfl rfl rfl rfl (by exact ovE (mv rfl) rfl), nR rfl rfl rfl rfl rfl (by exact ovE (mv rfl) rfl), nR rfl rfl rfl rfl rfl (by exact ovE (bin rfl rfl rfl) rfl), nR rfl rfl rfl rfl rfl (by exact ovE (ixV rfl rfl Try.runUnderlying22 Try.sizeOf3 (hV5214.rd (i := 0) rfl) (fun _ => rfl) rfl hk5358) rfl), nR rfl rfl rfl rfl rfl (by exact ovE (ldV0 rfl (hV5214.rd (i := 0) rfl) (fun _ => rfl) hk5358 rfl Try.isAgg3) rfl), nR rfl rfl rfl rfl rfl (by exact ovE (mv rfl) rfl), nR rfl rfl rfl rfl rfl (by exact ovE (mv rfl) rfl), nR rfl rfl rfl rfl rfl (by exact ovE (ixV rfl rfl Try.runUnderlying22 Try.sizeOf3 hr5009.wk (fun _ => rfl) rfl hk5218) rfl), nR rfl rfl rfl rfl rfl (by exact ovE (ldV0 rfl hr5009.wk (fun _ => rfl) hk5218 rfl Try.isAgg3) rfl), nR rfl rfl rfl rfl rfl (by exact ovE (mv rfl) rfl), nR rfl rfl rfl rfl rfl (by exact ovE (bin rfl rfl rfl) rfl), nR rfl rfl rfl rfl rfl (by exact ovE (bin rfl rfl rfl) rfl), nR rfl rfl rfl rfl rfl (by exact ovE (ixV rfl rfl Try.runUnderlying22 Try.sizeOf3 (hV5341.rd (i := 1) rfl) (fun _ => rfl) rfl hk5360) rfl), trivial⟩) fun D l a w ho hcl hav hpre hm hE hk hA hst => ?_
            have hS := (Ss.mk hE hst).env2 (e' := [(111, .int .i64 (w64 ((rd best5212 (w64 (k_5301 - part5347))) + (w64 ((rd often5006 i5215) * length5342))))), (112, slp A5222 (Int.toNat k_5301 * 1))]) ⟨rfl, rfl, trivial⟩
            refine op_of_nth rfl <| stV (i := k_5301) (sz := 1) 1 0 ((w64 ((rd best5212 (w64 (k_5301 - part5347))) + (w64 ((rd often5006 i5215) * length5342))))) hS rfl rfl hV5341 rfl Try.sizeOf3 (one_t3 (w64 ((rd best5212 (w64 (k_5301 - part5347))) + (w64 ((rd often5006 i5215) * length5342))))) (fun _ => rfl) hk5360 rfl rfl fun zs5363 w f5361 hz hz5364 hV5362 hS => ?_
            have hM := lt_to hz hM; clear hz
            refine wpList_nil (then_n ?_)
            replace hst := hS.st
            obtain ⟨hcl, hmust, hav2, hA⟩ := dnN (vals' := [some (.slice A5222 next5339.length c5223), some (.int .i64 k_5301), some (.slice A5210 best5212.length c5211), some (.int .i64 k_5301), some (.int .i64 part5347), some (.int .i64 (w64 (k_5301 - part5347))), some (slp A5210 (Int.toNat (w64 (k_5301 - part5347)) * 1)), some (.int .i64 (rd best5212 (w64 (k_5301 - part5347)))), some (.slice A5007 often5006.length c5008), some (.int .i64 i5215), some (slp A5007 (Int.toNat i5215 * 1)), some (.int .i64 (rd often5006 i5215)), some (.int .i64 length5342), some (.int .i64 (w64 ((rd often5006 i5215) * length5342))), some (.int .i64 (w64 ((rd best5212 (w64 (k_5301 - part5347))) + (w64 ((rd often5006 i5215) * length5342))))), some (slp A5222 (Int.toNat k_5301 * 1)), some undef]) 16 [(0, 16), (1, 16), (2, 16), (3, 16), (4, 16), (5, 16), (6, 16), (7, 16), (8, 16), (9, 16), (10, 16), (11, 16), (12, 16), (13, 16), (14, 16), (15, 16)] hA hcl hav hm hpre rfl rfl rfl rfl rfl
            clear hm hav
            refine phqE hA hst ho hcl hmust [] rfl rfl rfl trivial fun a w hS => ?_
            replace hS := hS.env2 (e' := [(0, .slice A5007 often5006.length c5008), (1, .int .i64 most5011), (5, .int .i64 (4611686018427387904 : Int)), (6, .int .i64 size5013), (7, .slice A5210 best5212.length c5211), (9, .int .i64 i5215), (10, .slice A5222 zs5363.length c5223), (11, .int .i64 k_5301), (12, .int .i64 length5342)]) ⟨rfl, rfl, rfl, rfl, rfl, rfl, (relk (u := .slice A5222 next5339.length c5223) rfl (by rw [hz5364])), rfl, rfl, trivial⟩
            refine blk_n (then_n ?_)
            refine wp_region_list <| st1 hS (mv rfl) rfl fun a w hS => st1 hS (bin rfl rfl rfl) rfl fun a w hS => st1x (v := Value.int .i64) (x0 := (w64 (length5342 + (1 : Int)))) hS (asg rfl) rfl fun length5365 a w hz hS => ?_
            have hM := lt_to hz hM; clear hz
            refine wpList_nil <| then_n ?_
            exact hJ5367 _ _ ⟨zs5363, f5361, length5365, hS.to [0, 1] (by kernel_rfl) ⟨rfl, rfl, rfl, rfl, rfl, rfl, rfl, rfl, rfl, trivial⟩, hV5362, hM⟩
           ·refine wp_skip ?_
            refine blk_n (then_n ?_)
            refine wp_region_list <| st1 hS (mv rfl) rfl fun a w hS => st1 hS (bin rfl rfl rfl) rfl fun a w hS => st1x (v := Value.int .i64) (x0 := (w64 (length5342 + (1 : Int)))) hS (asg rfl) rfl fun length5366 a w hz hS => ?_
            have hM := lt_to hz hM; clear hz
            refine wpList_nil <| then_n ?_
            exact hJ5367 _ _ ⟨next5339, f5340, length5366, hS.to [0, 1] (by kernel_rfl) ⟨rfl, rfl, rfl, rfl, rfl, rfl, rfl, rfl, rfl, trivial⟩, hV5341, hM⟩
         ·refine wp_exit ?_
          refine then_ex (then_ex (blk_same (blk_n (then_n ?_))))
          refine wp_region_list <| st1 hS (mv rfl) rfl fun a w hS => st1 hS (bin rfl rfl rfl) rfl fun a w hS => st1x (v := Value.int .i64) (x0 := (w64 (k_5301 + (1 : Int)))) hS (asg rfl) rfl fun k_5345 a w hz hS => ?_
          have hM := lt_to hz hM; clear hz
          refine wpList_nil <| then_n ?_
          exact hJ5368 _ _ ⟨next5339, f5340, k_5345, hS.to [0, 1] (by kernel_rfl) ⟨rfl, rfl, rfl, rfl, rfl, rfl, rfl, rfl, trivial⟩, hV5341, hM⟩
       ·refine wp_exit ?_
        refine then_ex (then_ex (blk_same (then_n ?_)))
        refine wp_region_list <| st1 hS (mv rfl) rfl fun a w hS => st1 hS (asg rfl) rfl fun a w hS => wpList_nil <| blk_n (then_n ?_)
        refine wp_region_list <| st1 hS (mv rfl) rfl fun a w hS => st1 hS (bin rfl rfl rfl) rfl fun a w hS => st1x (v := Value.int .i64) (x0 := (w64 (i5215 + (1 : Int)))) hS (asg rfl) rfl fun i5304 a w hz hS => ?_
        have hM := lt_to hz hM; clear hz
        refine wpList_nil <| then_n ?_
        exact hJ5369 _ _ ⟨A5222, c5223, next5298, f5299, i5304, hS.to [1] (by kernel_rfl) ⟨rfl, rfl, rfl, rfl, rfl, rfl, trivial⟩, hV5300, hM⟩
    ·refine wp_exit ?_
     refine then_ex (then_ex (blk_same (then_n ?_)))
     exact hJ5375 _ _ ⟨A5210, c5211, best5212, f5213, hS.to [0] (by kernel_rfl) ⟨rfl, rfl, trivial⟩, hV5214, hM⟩
  ·intro a w hI
   obtain ⟨A5370, c5371, best5372, f5373, hS, hV5374, hM⟩ := hI
   rw [mortiseref06_Least.j7] at hM
   refine wp_seq <| wp_region_list <| st1 hS (mv rfl) rfl fun a w hS => ?_
   obtain ⟨hk5376, hM⟩ := wp_chk hM
   refine st1 hS (ixV rfl rfl Try.runUnderlying22 Try.sizeOf3 (hV5374.rd (i := 0) rfl) (fun _ => rfl) rfl hk5376) rfl fun a w hS => st1 hS (ldV0 rfl (hV5374.rd (i := 0) rfl) (fun _ => rfl) hk5376 rfl Try.isAgg3) rfl fun a w hS => st1x (v := Value.int .i64) (x0 := (rd best5372 (0 : Int))) hS (asg rfl) rfl fun out5377 a w hz hS => ?_
   have hM := lt_to hz hM; clear hz
   refine wpList_nil <| then_n <| wp_seq <| wp_seq <| wp_region_list <| st1 hS (asg rfl) rfl fun a w hS => wpList_nil <| then_n <| wp_block <| s_loopJ (fun k5380 a w => ∃ (out5378 : Int) (k_5379 : Int), Ss 129 [] [(6, .int .i64 size5013), (7, .slice A5370 best5372.length c5371), (14, .int .i64 out5378), (15, .int .i64 k_5379)] H [f5373] F a w ∧ (mortiseref06_Least.l8 K size5013 best5372 k5380 out5378 k_5379).wp kr kp) K ?_ ?_ ?_
   ·exact ⟨out5377, (1 : Int), hS.to [0] (by kernel_rfl) ⟨rfl, rfl, rfl, rfl, trivial⟩, hM⟩
   ·intro a w hI; obtain ⟨_, _, _, hM⟩ := hI; exact wp_fail hM
   ·intro k5380 a w hI J5385 hJ5385
    obtain ⟨out5378, k_5379, hS, hM⟩ := hI
    rw [mortiseref06_Least.l8] at hM
    refine wp_seq <| wp_seq <| wp_region_list <| st1 hS (mv rfl) rfl fun a w hS => st1 hS (mv rfl) rfl fun a w hS => st1 hS (bin rfl rfl rfl) rfl fun a w hS => wpList_nil <| then_n <| s_cond hS rfl hM (fun hb5381 hM => ?_) (fun hb5381 hM => ?_)
    ·refine wp_skip ?_
     refine then_n <| wp_seq <| wp_block <| wp_region_list <| st1 hS (mv rfl) rfl fun a w hS => st1 hS (mv rfl) rfl fun a w hS => st1 hS (mv rfl) rfl fun a w hS => ?_
     obtain ⟨hk5382, hM⟩ := wp_chk hM
     refine st1 hS (ixV rfl rfl Try.runUnderlying22 Try.sizeOf3 (hV5374.rd (i := 0) rfl) (fun _ => rfl) rfl hk5382) rfl fun a w hS => st1 hS (ldV0 rfl (hV5374.rd (i := 0) rfl) (fun _ => rfl) hk5382 rfl Try.isAgg3) rfl fun a w hS => st1 hS (minI rfl rfl) rfl fun a w hS => st1x (v := Value.int .i64) (x0 := (if (rd best5372 k_5379) < out5378 then (rd best5372 k_5379) else out5378)) hS (asg rfl) rfl fun out5383 a w hz hS => ?_
     have hM := lt_to hz hM; clear hz
     refine wpList_nil <| blk_n (then_n ?_)
     refine wp_region_list <| st1 hS (mv rfl) rfl fun a w hS => st1 hS (bin rfl rfl rfl) rfl fun a w hS => st1x (v := Value.int .i64) (x0 := (w64 (k_5379 + (1 : Int)))) hS (asg rfl) rfl fun k_5384 a w hz hS => ?_
     have hM := lt_to hz hM; clear hz
     refine wpList_nil <| then_n ?_
     exact hJ5385 _ _ ⟨out5383, k_5384, hS.to [0] (by kernel_rfl) ⟨rfl, rfl, rfl, rfl, trivial⟩, hM⟩
    ·refine wp_exit ?_
     refine then_ex (then_ex (blk_same (then_n ?_)))
     refine wp_seq <| wp_region_list <| st1 hS (mv rfl) rfl fun a w hS => st1 hS (asg rfl) rfl fun a w hS => wpList_nil <| then_n <| wp_ret ?_
     exact s_ret (rs := [4]) hS rfl rfl (hret out5378 w (wp_ok hM) (hS.st.pick [] (by kernel_rfl)))

theorem mortiselaw06_HuffLeast_c {H : Imm} {F : List Frag} {w : World} {R : Ending → World → Prop} {kr : Bool → Prop} {kp : Value → Prop} (hG : Gl H) (K : Nat) (often4923 : List Int) (most4928 : Int) (A4924 : Option Addr) (c4925 : Nat) (hr4926 : Rdl H [] F (ci .i64) A4924 often4923) (hc4927 : often4923.length ≤ c4925)
    (hS : St w H [] F) (hm : (mortiselaw06_HuffLeast.m K often4923 most4928).wp kr kp)
    (hret : ∀ (x5392 : Bool) (w : World), kr x5392 → St w H [] F → R (.returned (.bool x5392)) w)
    (hpan : ∀ v w, kp v → St w H [] F → R (.panicked [⟨v, false, false⟩]) w) :
    Calls Try.prog 5 ⟨[.slice A4924 often4923.length c4925, .int .i64 most4928]⟩ w R := by
 refine enter Try.func5 rfl Try.ntmps5 rfl hS fun a w hS => ?_
 have hM := hm; clear hm
 rw [mortiselaw06_HuffLeast.m] at hM
 refine wp_seq <| wp_region_list <| st1 hS (asg rfl) rfl fun a w hS => wpList_nil <| then_n <| wp_seq <| wp_seq <| wp_region_list <| st1 hS (mv rfl) rfl fun a w hS => st1 hS (lenV rfl Try.runUnderlying22) rfl fun a w hS => st1 hS (bin rfl rfl rfl) rfl fun a w hS => st1 hS (mv rfl) rfl fun a w hS => g_op 2 false 13 (b := (decide ((often4923.length : Int) > (30 : Int)))) (r := (decide (most4928 > (8 : Int)))) hS rfl rfl rfl rfl rfl rfl rfl (fun hb a w hS K hK => ?_) rfl fun a w hS => ?_
 ·refine st1g hS rfl rfl rfl hb (mv rfl) rfl fun a w hS => ?_
  refine st1g hS rfl rfl rfl hb (bin rfl rfl rfl) rfl fun a w hS => ?_
  exact wpList_nil (hK _ _ (hS.up 2 rfl rfl))
 refine wpList_nil <| then_n <| s_cond hS rfl hM (fun hb4929 hM => ?_) (fun hb4929 hM => ?_)
 ·refine wp_seq ?_
  refine wp_region_list <| s_call hS rfl Try.call14 (mortiselaw06_live_c hG K  (hS.st.part 0 [] (by kernel_rfl)) (wp_bind hM) (fun x4930 w hM  hst => s_back hS.ev hst.appF rfl fun hS => ?_) (fun v w hk hst => s_pan (then_pan (then_pan (⟨hS.ev.defs, hpan _ _ hk hst.appF.frame⟩)))))
  replace hS : Ss _ _ _ H [] F _ _ := hS
  refine st1 hS (asg rfl) rfl fun a w hS => wpList_nil <| then_n <| wp_ret <| then_ret ?_
  exact s_ret (rs := [4]) hS rfl rfl (hret x4930 w (wp_ok hM) (hS.st.pick [] (by kernel_rfl)))
 ·refine wp_skip ?_
  refine then_n <| wp_seq <| wp_region_list <| st1 hS (asg rfl) rfl fun a w hS => ?_
  obtain ⟨f4931, hV4932, hS⟩ := hS.nilV 3 (ci .i64) 1
  refine wpList_nil <| then_n <| wp_seq <| wp_region_list <| st1 hS (mv rfl) rfl fun a w hS => st1 hS (mv rfl) rfl fun a w hS => ?_
  obtain ⟨hk4933, hM⟩ := wp_chk hM
  refine apV (ys := often4923) 0 hS rfl rfl hV4932 rfl hr4926.wk Try.runUnderlying22 Try.runUnderlying22 X.el3 (fun _ => rfl) rfl one_t3 hk4933 rfl fun zs4938 w A4934 c4935 f4936 hz hV4937 hS => ?_
  have hM := lt_to hz hM; clear hz
  refine st1 hS (asg rfl) rfl fun a w hS => wpList_nil <| then_n <| wp_seq <| wp_region_list <| st1 hS (mv rfl) rfl fun a w hS => st1 hS (mv rfl) rfl fun a w hS => s_call hS rfl Try.call20 (huff_Lengths_c hG K zs4938 most4928 A4934 c4935 (hV4937.rdF (i := 0) rfl) (hV4937.cap (fun _ => rfl) rfl) (hS.st.part 0 [0] (by kernel_rfl)) (wp_bind hM) (fun A4939 c4940 x4941 f4942 x4943 w hM h4944 hst => s_back hS.ev hst.appF rfl fun hS => ?_) (fun v w hk hst => s_pan (then_pan (⟨hS.ev.defs, hpan _ _ hk hst.appF.frame⟩))))
  replace hS : Ss _ _ _ H [f4942, f4936] F _ _ := hS
  refine st1 hS (mv rfl) rfl fun a w hS => st1 hS (ex rfl rfl) rfl fun a w hS => st1 hS (ex rfl rfl) rfl fun a w hS => st1 hS (asg rfl) rfl fun a w hS => st1 hS (asg rfl) rfl fun a w hS => wpList_nil <| then_n <| wp_seq <| wp_seq <| wp_region_list <| st1 hS (mv rfl) rfl fun a w hS => st1 hS (mv rfl) rfl fun a w hS => s_call hS rfl Try.call11 (mortiseref06_SameInts_c hG K zs4938 often4923 A4934 c4935 A4924 c4925 (hV4937.rdF (i := 1) rfl) (hV4937.cap (fun _ => rfl) rfl) (hr4926.app _) hc4927 (hS.st.part 0 [0, 1] (by kernel_rfl)) (wp_bind hM) (fun x4945 w hM  hst => s_back hS.ev hst.appF rfl fun hS => ?_))
  replace hS : Ss _ _ _ H [f4942, f4936] F _ _ := hS
  refine st1 hS (un rfl rfl) rfl fun a w hS => st1 hS (mv rfl) rfl fun a w hS => seg_cutJ (fun a w => ∃ (v4971 : Bool), Ss 105 [] [(0, .slice A4924 often4923.length c4925), (1, .int .i64 most4928), (6, .slice A4939 x4941.length c4940), (7, .int .i64 x4943), (38, .bool v4971)] H [f4942] F a w ∧ (mortiselaw06_HuffLeast.j1 K often4923 most4928 x4941 x4943 v4971).wp kr kp) 7 (fun J4972 hJ4972 => ?_) ?_
  ·refine ifB (b := (!x4945)) hM (fun hb4946 hM => ?_) (fun hb4946 hM => ?_)
   ·replace hS := hS.re 30 (v := .bool true) rfl (congrArg Value.bool hb4946)
    replace hS := hS.re 31 (v := .bool true) rfl (congrArg Value.bool hb4946)
    refine skips 6 hS rfl fun a w hS => st1 hS (pk rfl rfl rfl) rfl fun a w hS => wpList_nil <| then_n ?_
    exact hJ4972 _ _ ⟨true, hS.to [0] (by kernel_rfl) ⟨rfl, rfl, rfl, rfl, rfl, trivial⟩, hM⟩
   ·replace hS := hS.re 30 (v := .bool false) rfl (congrArg Value.bool hb4946)
    replace hS := hS.re 31 (v := .bool false) rfl (congrArg Value.bool hb4946)
    refine st1g hS rfl rfl rfl rfl (mv rfl) rfl fun a w hS => st1g hS rfl rfl rfl rfl (bin rfl rfl rfl) rfl fun a w hS => st1g hS rfl rfl rfl rfl (mv rfl) rfl fun a w hS => st1g hS rfl rfl rfl rfl (mv rfl) rfl fun a w hS => unguard hS rfl rfl rfl rfl <| s_call hS rfl Try.call21 (mortiseref06_Often_c hG K often4923 most4928 A4924 c4925 (hr4926.app _) hc4927 (hS.st.part 0 [0, 1] (by kernel_rfl)) (wp_bind hM) (fun x4970 w hM  hst => s_back hS.ev hst.appF rfl fun hS => ?_))
    replace hS : Ss _ _ _ H [f4942, f4936] F _ _ := hS
    refine st1g hS rfl rfl rfl rfl (binB rfl rfl Try.runUnderlying4 rfl) rfl fun a w hS => st1 hS (pk rfl rfl rfl) rfl fun a w hS => wpList_nil <| then_n ?_
    exact hJ4972 _ _ ⟨(!((x4943 == (0 : Int)) == x4970)), hS.to [0] (by kernel_rfl) ⟨rfl, rfl, rfl, rfl, rfl, trivial⟩, hM⟩
  ·intro a w hI
   obtain ⟨v4971, hS, hM⟩ := hI
   rw [mortiselaw06_HuffLeast.j1] at hM
   refine wpList_nil <| then_n <| s_cond hS rfl hM (fun hb4973 hM => ?_) (fun hb4973 hM => ?_)
   ·refine wp_seq ?_
    refine wp_region_list <| st1 hS (asg rfl) rfl fun a w hS => wpList_nil <| then_n <| wp_ret <| then_ret ?_
    exact s_ret (rs := [4]) hS rfl rfl (hret false w (wp_ok hM) (hS.st.pick [] (by kernel_rfl)))
   ·refine wp_skip ?_
    refine then_n <| wp_seq <| wp_seq <| wp_region_list <| st1 hS (mv rfl) rfl fun a w hS => st1 hS (bin rfl rfl rfl) rfl fun a w hS => wpList_nil <| then_n <| s_cond hS rfl hM (fun hb4974 hM => ?_) (fun hb4974 hM => ?_)
    ·refine wp_seq ?_
     refine wp_region_list <| st1 hS (mv rfl) rfl fun a w hS => st1 hS (bin rfl rfl rfl) rfl fun a w hS => st1 hS (mv rfl) rfl fun a w hS => g_op 3 true 43 (b := (x4943 == (1 : Int))) (r := ((x4941.length : Int) == (0 : Int))) hS rfl rfl rfl rfl rfl rfl rfl (fun hb a w hS K hK => ?_) rfl fun a w hS => ?_
     ·refine st1g hS rfl rfl rfl hb (mv rfl) rfl fun a w hS => ?_
      refine st1g hS rfl rfl rfl hb (lenV rfl Try.runUnderlying22) rfl fun a w hS => st1g hS rfl rfl rfl hb (bin rfl rfl rfl) rfl fun a w hS => ?_
      exact wpList_nil (hK _ _ (hS.up 3 rfl rfl))
     refine st1 hS (mv rfl) rfl fun a w hS => seg_cutJ (fun a w => ∃ (v4977 : Bool), Ss 105 [] [(50, .bool v4977)] H [] F a w ∧ (mortiselaw06_HuffLeast.j2 K v4977).wp kr kp) 2 (fun J4978 hJ4978 => ?_) ?_
     ·refine ifB (b := ((x4943 == (1 : Int)) && ((x4941.length : Int) == (0 : Int)))) hM (fun hb4975 hM => ?_) (fun hb4975 hM => ?_)
      ·replace hS := hS.re 47 (v := .bool true) rfl (congrArg Value.bool hb4975)
       replace hS := hS.re 48 (v := .bool true) rfl (congrArg Value.bool hb4975)
       refine unguard hS rfl rfl rfl rfl <| s_call hS rfl Try.call14 (mortiselaw06_live_c hG K  (hS.st.part 0 [0] (by kernel_rfl)) (wp_bind hM) (fun x4976 w hM  hst => s_back hS.ev hst.appF rfl fun hS => ?_) (fun v w hk hst => s_pan (then_pan (then_pan (then_pan (⟨hS.ev.defs, hpan _ _ hk hst.appF.frame⟩))))))
       replace hS : Ss _ _ _ H [f4942] F _ _ := hS
       refine st1 hS (pk rfl rfl rfl) rfl fun a w hS => wpList_nil <| then_n ?_
       exact hJ4978 _ _ ⟨x4976, hS.to [] (by kernel_rfl) ⟨rfl, trivial⟩, hM⟩
      ·replace hS := hS.re 47 (v := .bool false) rfl (congrArg Value.bool hb4975)
       replace hS := hS.re 48 (v := .bool false) rfl (congrArg Value.bool hb4975)
       refine skips 1 hS rfl fun a w hS => st1 hS (pk rfl rfl rfl) rfl fun a w hS => wpList_nil <| then_n ?_
       exact hJ4978 _ _ ⟨false, hS.to [] (by kernel_rfl) ⟨rfl, trivial⟩, hM⟩
     ·intro a w hI
      obtain ⟨v4977, hS, hM⟩ := hI
      rw [mortiselaw06_HuffLeast.j2] at hM
      refine st1 hS (asg rfl) rfl fun a w hS => wpList_nil <| then_n <| wp_ret <| then_ret ?_
      exact s_ret (rs := [4]) hS rfl rfl (hret v4977 w (wp_ok hM) (hS.st.pick [] (by kernel_rfl)))
    ·refine wp_skip ?_
     refine then_n <| wp_seq <| wp_seq <| wp_region_list <| st1 hS (mv rfl) rfl fun a w hS => st1 hS (lenV rfl Try.runUnderlying22) rfl fun a w hS => st1 hS (mv rfl) rfl fun a w hS => st1 hS (lenV rfl Try.runUnderlying22) rfl fun a w hS => st1 hS (bin rfl rfl rfl) rfl fun a w hS => st1 hS (mv rfl) rfl fun a w hS => seg_cutJ (fun a w => ∃ (v4981 : Bool), Ss 105 [] [(0, .slice A4924 often4923.length c4925), (1, .int .i64 most4928), (6, .slice A4939 x4941.length c4940), (60, .bool v4981)] H [f4942] F a w ∧ (mortiselaw06_HuffLeast.j3 K often4923 most4928 x4941 v4981).wp kr kp) 4 (fun J4982 hJ4982 => ?_) ?_
     ·refine ifB (b := ((x4941.length : Int) != (often4923.length : Int))) hM (fun hb4979 hM => ?_) (fun hb4979 hM => ?_)
      ·replace hS := hS.re 55 (v := .bool true) rfl (congrArg Value.bool hb4979)
       replace hS := hS.re 56 (v := .bool true) rfl (congrArg Value.bool hb4979)
       refine skips 3 hS rfl fun a w hS => st1 hS (pk rfl rfl rfl) rfl fun a w hS => wpList_nil <| then_n ?_
       exact hJ4982 _ _ ⟨true, hS.to [0] (by kernel_rfl) ⟨rfl, rfl, rfl, rfl, trivial⟩, hM⟩
      ·replace hS := hS.re 55 (v := .bool false) rfl (congrArg Value.bool hb4979)
       replace hS := hS.re 56 (v := .bool false) rfl (congrArg Value.bool hb4979)
       refine st1g hS rfl rfl rfl rfl (mv rfl) rfl fun a w hS => unguard hS rfl rfl rfl rfl <| s_call hS rfl Try.call13 (mortiseref06_Check_c hG K x4941 A4939 c4940 (h4944.rdF (i := 0) rfl) (h4944.cap (fun _ => rfl) rfl) (hS.st.part 0 [0] (by kernel_rfl)) (wp_bind hM) (fun x4980 w hM  hst => s_back hS.ev hst.appF rfl fun hS => ?_))
       replace hS : Ss _ _ _ H [f4942] F _ _ := hS
       refine st1g hS rfl rfl rfl rfl (bin rfl rfl rfl) rfl fun a w hS => st1 hS (pk rfl rfl rfl) rfl fun a w hS => wpList_nil <| then_n ?_
       exact hJ4982 _ _ ⟨(x4980 != (0 : Int)), hS.to [0] (by kernel_rfl) ⟨rfl, rfl, rfl, rfl, trivial⟩, hM⟩
     ·intro a w hI
      obtain ⟨v4981, hS, hM⟩ := hI
      rw [mortiselaw06_HuffLeast.j3] at hM
      refine wpList_nil <| then_n <| s_cond hS rfl hM (fun hb4983 hM => ?_) (fun hb4983 hM => ?_)
      ·refine wp_seq ?_
       refine wp_region_list <| st1 hS (asg rfl) rfl fun a w hS => wpList_nil <| then_n <| wp_ret <| then_ret ?_
       exact s_ret (rs := [4]) hS rfl rfl (hret false w (wp_ok hM) (hS.st.pick [] (by kernel_rfl)))
      ·refine wp_skip ?_
       refine then_n <| wp_seq <| wp_region_list <| st1 hS (asg rfl) rfl fun a w hS => wpList_nil <| then_n <| seq_joinJ (fun a w => ∃ (sum5004 : Int), Ss 105 [] [(0, .slice A4924 often4923.length c4925), (1, .int .i64 most4928), (8, .int .i64 sum5004)] H [] F a w ∧ (mortiselaw06_HuffLeast.j6 K often4923 most4928 sum5004).wp kr kp) (fun J5005 hJ5005 => ?_) ?_
       ·refine wp_seq ?_
        refine wp_region_list <| st1 hS (asg rfl) rfl fun a w hS => wpList_nil <| then_n <| wp_block <| s_loopJ (fun k4986 a w => ∃ (sum4984 : Int) (i4985 : Int), Ss 105 [] [(0, .slice A4924 often4923.length c4925), (1, .int .i64 most4928), (6, .slice A4939 x4941.length c4940), (8, .int .i64 sum4984), (9, .int .i64 i4985)] H [f4942] F a w ∧ (mortiselaw06_HuffLeast.l4 K often4923 most4928 x4941 k4986 sum4984 i4985).wp kr kp) K ?_ ?_ ?_
        ·exact ⟨(0 : Int), (0 : Int), hS.to [0] (by kernel_rfl) ⟨rfl, rfl, rfl, rfl, rfl, trivial⟩, hM⟩
        ·intro a w hI; obtain ⟨_, _, _, hM⟩ := hI; exact wp_fail hM
        ·intro k4986 a w hI J5003 hJ5003
         obtain ⟨sum4984, i4985, hS, hM⟩ := hI
         rw [mortiselaw06_HuffLeast.l4] at hM
         refine wp_seq <| wp_seq <| wp_region_list <| st1 hS (mv rfl) rfl fun a w hS => st1 hS (mv rfl) rfl fun a w hS => st1 hS (lenV rfl Try.runUnderlying22) rfl fun a w hS => st1 hS (bin rfl rfl rfl) rfl fun a w hS => wpList_nil <| then_n <| s_cond hS rfl hM (fun hb4987 hM => ?_) (fun hb4987 hM => ?_)
         ·refine wp_skip ?_
          refine then_n <| wp_seq <| wp_block <| wp_seq <| seq_joinJ (fun a w => ∃ (v4993 : Bool), Ss 105 [] [(0, .slice A4924 often4923.length c4925), (1, .int .i64 most4928), (6, .slice A4939 x4941.length c4940), (8, .int .i64 sum4984), (9, .int .i64 i4985), (85, .bool v4993)] H [f4942] F a w ∧ (mortiselaw06_HuffLeast.j5 K (mortiselaw06_HuffLeast.l4 K often4923 most4928 x4941 k4986) often4923 x4941 sum4984 i4985 v4993).wp kr kp) (fun J4994 hJ4994 => ?_) ?_
          ·obtain ⟨hk4989, hM⟩ := wp_chk hM
           refine ifB (b := (decide ((rd x4941 i4985) > most4928))) hM (fun hb4990 hM => ?_) (fun hb4990 hM => ?_)
           ·refine draw_begin (vals := [some (.slice A4939 x4941.length c4940), some (.int .i64 i4985), some (slp A4939 (Int.toNat i4985 * 1)), some (.int .i64 (rd x4941 i4985)), some (.int .i64 most4928), some (.bool true), some (.bool true), some (undef), some (undef), some (undef), some (undef), some (undef), some (undef), some (undef), some (undef), some (undef), some (undef), some (undef), some (.bool true)]) hS mixed rfl ?_
            intro l w ho hcl hA hst
            refine phqE hA hst ho hcl nmust [0, 1, 2, 3, 4, 5, 6, 7, 8, 9, 10, 11, 12, 13, 14, 15, 16, 17, 18] rfl rfl rfl (by exact ⟨nR rfl rfl rfl rfl rfl (by exact ovE (mv rfl) rfl), nR rfl rfl rfl rfl rfl (by exact ovE (mv rfl) rfl), nR rfl rfl rfl rfl rfl (by exact ovE (ixV rfl rfl Try.runUnderlying22 Try.sizeOf3 (h4944.rd (i := 0) rfl) (fun _ => rfl) rfl hk4989) rfl), nR rfl rfl rfl rfl rfl (by exact ovE (ldV0 rfl (h4944.rd (i := 0) rfl) (fun _ => rfl) hk4989 rfl Try.isAgg3) rfl), nR rfl rfl rfl rfl rfl (by exact ovE (mv rfl) rfl), nR rfl rfl rfl rfl rfl (by exact ovE (bin rfl rfl rfl) (congrArg Value.bool hb4990)), nR rfl rfl rfl rfl rfl (by exact ovE (mv rfl) rfl), nS rfl rfl rfl rfl rfl rfl rfl rfl rfl, nS rfl rfl rfl rfl rfl rfl rfl rfl rfl, nS rfl rfl rfl rfl rfl rfl rfl rfl rfl, nS rfl rfl rfl rfl rfl rfl rfl rfl rfl, nS rfl rfl rfl rfl rfl rfl rfl rfl rfl, nS rfl rfl rfl rfl rfl rfl rfl rfl rfl, nS rfl rfl rfl rfl rfl rfl rfl rfl rfl, nS rfl rfl rfl rfl rfl rfl rfl rfl rfl, nS rfl rfl rfl rfl rfl rfl rfl rfl rfl, nS rfl rfl rfl rfl rfl rfl rfl rfl rfl, nS rfl rfl rfl rfl rfl rfl rfl rfl rfl, nR rfl rfl rfl rfl rfl (by exact ovE (pk rfl rfl rfl) rfl), trivial⟩) fun a w hS => ?_
            replace hS := hS.env2 (e' := [(0, .slice A4924 often4923.length c4925), (1, .int .i64 most4928), (6, .slice A4939 x4941.length c4940), (8, .int .i64 sum4984), (9, .int .i64 i4985), (85, .bool true)]) ⟨rfl, rfl, rfl, rfl, rfl, rfl, trivial⟩
            refine then_n ?_
            exact hJ4994 _ _ ⟨true, hS.to [0] (by kernel_rfl) ⟨rfl, rfl, rfl, rfl, rfl, rfl, trivial⟩, hM⟩
           ·obtain ⟨hk4992, hM⟩ := wp_chk hM
            refine draw_begin (vals := [some (.slice A4939 x4941.length c4940), some (.int .i64 i4985), some (slp A4939 (Int.toNat i4985 * 1)), some (.int .i64 (rd x4941 i4985)), some (.int .i64 most4928), some (.bool false), some (.bool false), some (.slice A4939 x4941.length c4940), some (.int .i64 i4985), some (slp A4939 (Int.toNat i4985 * 1)), some (.int .i64 (rd x4941 i4985)), some (.bool ((rd x4941 i4985) == (0 : Int))), some (.slice A4924 often4923.length c4925), some (.int .i64 i4985), some (slp A4924 (Int.toNat i4985 * 1)), some (.int .i64 (rd often4923 i4985)), some (.bool ((rd often4923 i4985) == (0 : Int))), some (.bool (!(((rd x4941 i4985) == (0 : Int)) == ((rd often4923 i4985) == (0 : Int))))), some (.bool (!(((rd x4941 i4985) == (0 : Int)) == ((rd often4923 i4985) == (0 : Int)))))]) hS mixed rfl ?_
            intro l w ho hcl hA hst
            refine phqE hA hst ho hcl nmust [0, 1, 2, 3, 4, 5, 6, 7, 8, 9, 10, 11, 12, 13, 14, 15, 16, 17, 18] rfl rfl rfl (by exact ⟨nR rfl rfl rfl rfl rfl (by exact ovE (mv rfl) rfl), nR rfl rfl rfl rfl rfl (by exact ovE (mv rfl) rfl), nR rfl rfl rfl rfl rfl (by exact ovE (ixV rfl rfl Try.runUnderlying22 Try.sizeOf3 (h4944.rd (i := 0) rfl) (fun _ => rfl) rfl hk4989) rfl), nR rfl rfl rfl rfl rfl (by exact ovE (ldV0 rfl (h4944.rd (i := 0) rfl) (fun _ => rfl) hk4989 rfl Try.isAgg3) rfl), nR rfl rfl rfl rfl rfl (by exact ovE (mv rfl) rfl), nR rfl rfl rfl rfl rfl (by exact ovE (bin rfl rfl rfl) (congrArg Value.bool hb4990)), nR rfl rfl rfl rfl rfl (by exact ovE (mv rfl) rfl), nW rfl rfl rfl rfl rfl rfl rfl rfl (by exact ovE (mv rfl) rfl), nW rfl rfl rfl rfl rfl rfl rfl rfl (by exact ovE (mv rfl) rfl), nW rfl rfl rfl rfl rfl rfl rfl rfl (by exact ovE (ixV rfl rfl Try.runUnderlying22 Try.sizeOf3 (h4944.rd (i := 0) rfl) (fun _ => rfl) rfl hk4989) rfl), nW rfl rfl rfl rfl rfl rfl rfl rfl (by exact ovE (ldV0 rfl (h4944.rd (i := 0) rfl) (fun _ => rfl) hk4989 rfl Try.isAgg3) rfl), nW rfl rfl rfl rfl rfl rfl rfl rfl (by exact ovE (bin rfl rfl rfl) rfl), nW rfl rfl rfl rfl rfl rfl rfl rfl (by exact ovE (mv rfl) rfl), nW rfl rfl rfl rfl rfl rfl rfl rfl (by exact ovE (mv rfl) rfl), nW rfl rfl rfl rfl rfl rfl rfl rfl (by exact ovE (ixV rfl rfl Try.runUnderlying22 Try.sizeOf3 hr4926.wk (fun _ => rfl) rfl hk4992) rfl), nW rfl rfl rfl rfl rfl rfl rfl rfl (by exact ovE (ldV0 rfl hr4926.wk (fun _ => rfl) hk4992 rfl Try.isAgg3) rfl), nW rfl rfl rfl rfl rfl rfl rfl rfl (by exact ovE (bin rfl rfl rfl) rfl), nW rfl rfl rfl rfl rfl rfl rfl rfl (by exact ovE (binB rfl rfl Try.runUnderlying4 rfl) rfl), nR rfl rfl rfl rfl rfl (by exact ovE (pk rfl rfl rfl) rfl), trivial⟩) fun a w hS => ?_
            replace hS := hS.env2 (e' := [(0, .slice A4924 often4923.length c4925), (1, .int .i64 most4928), (6, .slice A4939 x4941.length c4940), (8, .int .i64 sum4984), (9, .int .i64 i4985), (85, .bool (!(((rd x4941 i4985) == (0 : Int)) == ((rd often4923 i4985) == (0 : Int)))))]) ⟨rfl, rfl, rfl, rfl, rfl, rfl, trivial⟩
            refine then_n ?_
            exact hJ4994 _ _ ⟨(!(((rd x4941 i4985) == (0 : Int)) == ((rd often4923 i4985) == (0 : Int)))), hS.to [0] (by kernel_rfl) ⟨rfl, rfl, rfl, rfl, rfl, rfl, trivial⟩, hM⟩
          ·intro a w hI
           obtain ⟨v4993, hS, hM⟩ := hI
           rw [mortiselaw06_HuffLeast.j5] at hM
           refine s_cond hS rfl hM (fun hb4995 hM => ?_) (fun hb4995 hM => ?_)
           ·refine wp_seq ?_
            refine wp_region_list <| st1 hS (asg rfl) rfl fun a w hS => wpList_nil <| then_n <| wp_ret <| then_ret (blk_ret (then_ret (then_ret (blk_ret (then_ret ?_)))))
            exact s_ret (rs := [4]) hS rfl rfl (hret false w (wp_ok hM) (hS.st.pick [] (by kernel_rfl)))
           ·refine wp_skip ?_
            refine then_n ?_
            obtain ⟨hk4997, hM⟩ := wp_chk hM
            obtain ⟨hk4999, hM⟩ := wp_chk hM
            obtain ⟨sum5000, hz5001⟩ : ∃ x, x = (w64 (sum4984 + (w64 ((rd x4941 i4985) * (rd often4923 i4985))))) := ⟨_, rfl⟩
            replace hM := lt_to hz5001 hM
            refine draw_begin (vals := [some (.int .i64 sum4984), some (.slice A4939 x4941.length c4940), some (.int .i64 i4985), some (slp A4939 (Int.toNat i4985 * 1)), some (.int .i64 (rd x4941 i4985)), some (.slice A4924 often4923.length c4925), some (.int .i64 i4985), some (slp A4924 (Int.toNat i4985 * 1)), some (.int .i64 (rd often4923 i4985)), some (.int .i64 (w64 ((rd x4941 i4985) * (rd often4923 i4985)))), some (.int .i64 (w64 (sum4984 + (w64 ((rd x4941 i4985) * (rd often4923 i4985)))))), some (.int .i64 sum5000)]) hS mixed rfl ?_
            intro l w ho hcl hA hst
            refine phqE hA hst ho hcl nmust [0, 1, 2, 3, 4, 5, 6, 7, 8, 9, 10, 11] rfl rfl rfl (by exact ⟨nR rfl rfl rfl rfl rfl (by exact ovE (mv rfl) rfl), nR rfl rfl rfl rfl rfl (by exact ovE (mv rfl) rfl), nR rfl rfl rfl rfl rfl (by exact ovE (mv rfl) rfl), nR rfl rfl rfl rfl rfl (by exact ovE (ixV rfl rfl Try.runUnderlying22 Try.sizeOf3 (h4944.rd (i := 0) rfl) (fun _ => rfl) rfl hk4997) rfl), nR rfl rfl rfl rfl rfl (by exact ovE (ldV0 rfl (h4944.rd (i := 0) rfl) (fun _ => rfl) hk4997 rfl Try.isAgg3) rfl), nR rfl rfl rfl rfl rfl (by exact ovE (mv rfl) rfl), nR rfl rfl rfl rfl rfl (by exact ovE (mv rfl) rfl), nR rfl rfl rfl rfl rfl (by exact ovE (ixV rfl rfl Try.runUnderlying22 Try.sizeOf3 hr4926.wk (fun _ => rfl) rfl hk4999) rfl), nR rfl rfl rfl rfl rfl (by exact ovE (ldV0 rfl hr4926.wk (fun _ => rfl) hk4999 rfl Try.isAgg3) rfl), nR rfl rfl rfl rfl rfl (by exact ovE (bin rfl rfl rfl) rfl), nR rfl rfl rfl rfl rfl (by exact ovE (bin rfl rfl rfl) rfl), nR rfl rfl rfl rfl rfl (by exact ovE (asg rfl) (congrArg (Value.int .i64) hz5001.symm)), trivial⟩) fun a w hS => ?_
            replace hS := hS.env2 (e' := [(0, .slice A4924 often4923.length c4925), (1, .int .i64 most4928), (6, .slice A4939 x4941.length c4940), (8, .int .i64 sum5000), (9, .int .i64 i4985)]) ⟨rfl, rfl, rfl, rfl, rfl, trivial⟩
            refine blk_n (then_n ?_)
            refine wp_region_list <| st1 hS (mv rfl) rfl fun a w hS => st1 hS (bin rfl rfl rfl) rfl fun a w hS => st1x (v := Value.int .i64) (x0 := (w64 (i4985 + (1 : Int)))) hS (asg rfl) rfl fun i5002 a w hz hS => ?_
            have hM := lt_to hz hM; clear hz
            refine wpList_nil <| then_n ?_
            exact hJ5003 _ _ ⟨sum5000, i5002, hS.to [0] (by kernel_rfl) ⟨rfl, rfl, rfl, rfl, rfl, trivial⟩, hM⟩
         ·refine wp_exit ?_
          refine then_ex (then_ex (blk_same (then_n ?_)))
          exact hJ5005 _ _ ⟨sum4984, hS.to [] (by kernel_rfl) ⟨rfl, rfl, rfl, trivial⟩, hM⟩
       ·intro a w hI
        obtain ⟨sum5004, hS, hM⟩ := hI
        rw [mortiselaw06_HuffLeast.j6] at hM
        refine wp_seq <| wp_region_list <| st1 hS (mv rfl) rfl fun a w hS => st1 hS (mv rfl) rfl fun a w hS => st1 hS (mv rfl) rfl fun a w hS => s_call hS rfl Try.call22 (mortiseref06_Least_c hG K often4923 most4928 A4924 c4925 (hr4926.app _) hc4927 (hS.st.part 0 [] (by kernel_rfl)) (wp_bind hM) (fun x5387 w hM  hst => s_back hS.ev hst.appF rfl fun hS => ?_))
        replace hS : Ss _ _ _ H [] F _ _ := hS
        refine st1 hS (bin rfl rfl rfl) rfl fun a w hS => st1 hS (mv rfl) rfl fun a w hS => seg_cutJ (fun a w => ∃ (v5390 : Bool), Ss 105 [] [(104, .bool v5390)] H [] F a w ∧ (mortiselaw06_HuffLeast.j7 K v5390).wp kr kp) 2 (fun J5391 hJ5391 => ?_) ?_
        ·refine ifB (b := (sum5004 == x5387)) hM (fun hb5388 hM => ?_) (fun hb5388 hM => ?_)
         ·replace hS := hS.re 101 (v := .bool true) rfl (congrArg Value.bool hb5388)
          replace hS := hS.re 102 (v := .bool true) rfl (congrArg Value.bool hb5388)
          refine unguard hS rfl rfl rfl rfl <| s_call hS rfl Try.call14 (mortiselaw06_live_c hG K  (hS.st.part 0 [] (by kernel_rfl)) (wp_bind hM) (fun x5389 w hM  hst => s_back hS.ev hst.appF rfl fun hS => ?_) (fun v w hk hst => s_pan (then_pan (then_pan (⟨hS.ev.defs, hpan _ _ hk hst.appF.frame⟩)))))
          replace hS : Ss _ _ _ H [] F _ _ := hS
          refine st1 hS (pk rfl rfl rfl) rfl fun a w hS => wpList_nil <| then_n ?_
          exact hJ5391 _ _ ⟨x5389, hS.to [] (by kernel_rfl) ⟨rfl, trivial⟩, hM⟩
         ·replace hS := hS.re 101 (v := .bool false) rfl (congrArg Value.bool hb5388)
          replace hS := hS.re 102 (v := .bool false) rfl (congrArg Value.bool hb5388)
          refine skips 1 hS rfl fun a w hS => st1 hS (pk rfl rfl rfl) rfl fun a w hS => wpList_nil <| then_n ?_
          exact hJ5391 _ _ ⟨false, hS.to [] (by kernel_rfl) ⟨rfl, trivial⟩, hM⟩
        ·intro a w hI
         obtain ⟨v5390, hS, hM⟩ := hI
         rw [mortiselaw06_HuffLeast.j7] at hM
         refine st1 hS (asg rfl) rfl fun a w hS => wpList_nil <| then_n <| wp_ret ?_
         exact s_ret (rs := [4]) hS rfl rfl (hret v5390 w (wp_ok hM) (hS.st.pick [] (by kernel_rfl)))

theorem mortiselaw06_HuffMany_c {H : Imm} {F : List Frag} {w : World} {R : Ending → World → Prop} {kr : Bool → Prop} {kp : Value → Prop} (hG : Gl H) (K : Nat) (often5393 : List Int) (most5398 : Int) (A5394 : Option Addr) (c5395 : Nat) (hr5396 : Rdl H [] F (ci .i64) A5394 often5393) (hc5397 : often5393.length ≤ c5395)
    (hS : St w H [] F) (hm : (mortiselaw06_HuffMany.m K often5393 most5398).wp kr kp)
    (hret : ∀ (x5450 : Bool) (w : World), kr x5450 → St w H [] F → R (.returned (.bool x5450)) w)
    (hpan : ∀ v w, kp v → St w H [] F → R (.panicked [⟨v, false, false⟩]) w) :
    Calls Try.prog 6 ⟨[.slice A5394 often5393.length c5395, .int .i64 most5398]⟩ w R := by
 refine enter Try.func6 rfl Try.ntmps6 rfl hS fun a w hS => ?_
 have hM := hm; clear hm
 rw [mortiselaw06_HuffMany.m] at hM
 refine wp_seq <| wp_region_list <| st1 hS (asg rfl) rfl fun a w hS => wpList_nil <| then_n <| wp_seq <| wp_region_list <| st1 hS (mv rfl) rfl fun a w hS => st1 hS (mv rfl) rfl fun a w hS => s_call hS rfl Try.call20 (huff_Lengths_c hG K often5393 most5398 A5394 c5395 (hr5396.app _) hc5397 (hS.st.part 0 [] (by kernel_rfl)) (wp_bind hM) (fun A5399 c5400 x5401 f5402 x5403 w hM h5404 hst => s_back hS.ev hst.appF rfl fun hS => ?_) (fun v w hk hst => s_pan (then_pan (⟨hS.ev.defs, hpan _ _ hk hst.appF.frame⟩))))
 replace hS : Ss _ _ _ H [f5402] F _ _ := hS
 refine st1 hS (mv rfl) rfl fun a w hS => st1 hS (ex rfl rfl) rfl fun a w hS => st1 hS (ex rfl rfl) rfl fun a w hS => st1 hS (asg rfl) rfl fun a w hS => st1 hS (asg rfl) rfl fun a w hS => wpList_nil <| then_n <| wp_seq <| wp_seq <| wp_region_list <| st1 hS (mv rfl) rfl fun a w hS => st1 hS (bin rfl rfl rfl) rfl fun a w hS => st1 hS (mv rfl) rfl fun a w hS => st1 hS (mv rfl) rfl fun a w hS => s_call hS rfl Try.call21 (mortiseref06_Often_c hG K often5393 most5398 A5394 c5395 (hr5396.app _) hc5397 (hS.st.part 0 [0] (by kernel_rfl)) (wp_bind hM) (fun x5405 w hM  hst => s_back hS.ev hst.appF rfl fun hS => ?_))
 replace hS : Ss _ _ _ H [f5402] F _ _ := hS
 refine st1 hS (binB rfl rfl Try.runUnderlying4 rfl) rfl fun a w hS => wpList_nil <| then_n <| s_cond hS rfl hM (fun hb5406 hM => ?_) (fun hb5406 hM => ?_)
 ·refine wp_seq ?_
  refine wp_region_list <| st1 hS (asg rfl) rfl fun a w hS => wpList_nil <| then_n <| wp_ret <| then_ret ?_
  exact s_ret (rs := [4]) hS rfl rfl (hret false w (wp_ok hM) (hS.st.pick [] (by kernel_rfl)))
 ·refine wp_skip ?_
  refine then_n <| wp_seq <| wp_seq <| wp_region_list <| st1 hS (mv rfl) rfl fun a w hS => st1 hS (bin rfl rfl rfl) rfl fun a w hS => wpList_nil <| then_n <| s_cond hS rfl hM (fun hb5407 hM => ?_) (fun hb5407 hM => ?_)
  ·refine wp_seq ?_
   refine wp_region_list <| st1 hS (mv rfl) rfl fun a w hS => st1 hS (bin rfl rfl rfl) rfl fun a w hS => st1 hS (mv rfl) rfl fun a w hS => g_op 3 true 25 (b := (x5403 == (1 : Int))) (r := ((x5401.length : Int) == (0 : Int))) hS rfl rfl rfl rfl rfl rfl rfl (fun hb a w hS K hK => ?_) rfl fun a w hS => ?_
   ·refine st1g hS rfl rfl rfl hb (mv rfl) rfl fun a w hS => ?_
    refine st1g hS rfl rfl rfl hb (lenV rfl Try.runUnderlying22) rfl fun a w hS => st1g hS rfl rfl rfl hb (bin rfl rfl rfl) rfl fun a w hS => ?_
    exact wpList_nil (hK _ _ (hS.up 3 rfl rfl))
   refine st1 hS (mv rfl) rfl fun a w hS => seg_cutJ (fun a w => ∃ (v5410 : Bool), Ss 102 [] [(32, .bool v5410)] H [] F a w ∧ (mortiselaw06_HuffMany.j1 K v5410).wp kr kp) 2 (fun J5411 hJ5411 => ?_) ?_
   ·refine ifB (b := ((x5403 == (1 : Int)) && ((x5401.length : Int) == (0 : Int)))) hM (fun hb5408 hM => ?_) (fun hb5408 hM => ?_)
    ·replace hS := hS.re 29 (v := .bool true) rfl (congrArg Value.bool hb5408)
     replace hS := hS.re 30 (v := .bool true) rfl (congrArg Value.bool hb5408)
     refine unguard hS rfl rfl rfl rfl <| s_call hS rfl Try.call14 (mortiselaw06_live_c hG K  (hS.st.part 0 [0] (by kernel_rfl)) (wp_bind hM) (fun x5409 w hM  hst => s_back hS.ev hst.appF rfl fun hS => ?_) (fun v w hk hst => s_pan (then_pan (then_pan (then_pan (⟨hS.ev.defs, hpan _ _ hk hst.appF.frame⟩))))))
     replace hS : Ss _ _ _ H [f5402] F _ _ := hS
     refine st1 hS (pk rfl rfl rfl) rfl fun a w hS => wpList_nil <| then_n ?_
     exact hJ5411 _ _ ⟨x5409, hS.to [] (by kernel_rfl) ⟨rfl, trivial⟩, hM⟩
    ·replace hS := hS.re 29 (v := .bool false) rfl (congrArg Value.bool hb5408)
     replace hS := hS.re 30 (v := .bool false) rfl (congrArg Value.bool hb5408)
     refine skips 1 hS rfl fun a w hS => st1 hS (pk rfl rfl rfl) rfl fun a w hS => wpList_nil <| then_n ?_
     exact hJ5411 _ _ ⟨false, hS.to [] (by kernel_rfl) ⟨rfl, trivial⟩, hM⟩
   ·intro a w hI
    obtain ⟨v5410, hS, hM⟩ := hI
    rw [mortiselaw06_HuffMany.j1] at hM
    refine st1 hS (asg rfl) rfl fun a w hS => wpList_nil <| then_n <| wp_ret <| then_ret ?_
    exact s_ret (rs := [4]) hS rfl rfl (hret v5410 w (wp_ok hM) (hS.st.pick [] (by kernel_rfl)))
  ·refine wp_skip ?_
   refine then_n <| wp_seq <| wp_seq <| wp_region_list <| st1 hS (mv rfl) rfl fun a w hS => st1 hS (lenV rfl Try.runUnderlying22) rfl fun a w hS => st1 hS (mv rfl) rfl fun a w hS => st1 hS (lenV rfl Try.runUnderlying22) rfl fun a w hS => st1 hS (bin rfl rfl rfl) rfl fun a w hS => st1 hS (mv rfl) rfl fun a w hS => seg_cutJ (fun a w => ∃ (v5414 : Bool), Ss 102 [] [(0, .slice A5394 often5393.length c5395), (1, .int .i64 most5398), (5, .slice A5399 x5401.length c5400), (42, .bool v5414)] H [f5402] F a w ∧ (mortiselaw06_HuffMany.j2 K often5393 most5398 x5401 v5414).wp kr kp) 4 (fun J5415 hJ5415 => ?_) ?_
   ·refine ifB (b := ((x5401.length : Int) != (often5393.length : Int))) hM (fun hb5412 hM => ?_) (fun hb5412 hM => ?_)
    ·replace hS := hS.re 37 (v := .bool true) rfl (congrArg Value.bool hb5412)
     replace hS := hS.re 38 (v := .bool true) rfl (congrArg Value.bool hb5412)
     refine skips 3 hS rfl fun a w hS => st1 hS (pk rfl rfl rfl) rfl fun a w hS => wpList_nil <| then_n ?_
     exact hJ5415 _ _ ⟨true, hS.to [0] (by kernel_rfl) ⟨rfl, rfl, rfl, rfl, trivial⟩, hM⟩
    ·replace hS := hS.re 37 (v := .bool false) rfl (congrArg Value.bool hb5412)
     replace hS := hS.re 38 (v := .bool false) rfl (congrArg Value.bool hb5412)
     refine st1g hS rfl rfl rfl rfl (mv rfl) rfl fun a w hS => unguard hS rfl rfl rfl rfl <| s_call hS rfl Try.call12 (huff_Check_c hG K x5401 A5399 c5400 (h5404.rdF (i := 0) rfl) (h5404.cap (fun _ => rfl) rfl) (hS.st.part 0 [0] (by kernel_rfl)) (wp_bind hM) (fun x5413 w hM  hst => s_back hS.ev hst.appF rfl fun hS => ?_))
     replace hS : Ss _ _ _ H [f5402] F _ _ := hS
     refine st1g hS rfl rfl rfl rfl (bin rfl rfl rfl) rfl fun a w hS => st1 hS (pk rfl rfl rfl) rfl fun a w hS => wpList_nil <| then_n ?_
     exact hJ5415 _ _ ⟨(x5413 != (0 : Int)), hS.to [0] (by kernel_rfl) ⟨rfl, rfl, rfl, rfl, trivial⟩, hM⟩
   ·intro a w hI
    obtain ⟨v5414, hS, hM⟩ := hI
    rw [mortiselaw06_HuffMany.j2] at hM
    refine wpList_nil <| then_n <| s_cond hS rfl hM (fun hb5416 hM => ?_) (fun hb5416 hM => ?_)
    ·refine wp_seq ?_
     refine wp_region_list <| st1 hS (asg rfl) rfl fun a w hS => wpList_nil <| then_n <| wp_ret <| then_ret ?_
     exact s_ret (rs := [4]) hS rfl rfl (hret false w (wp_ok hM) (hS.st.pick [] (by kernel_rfl)))
    ·refine wp_skip ?_
     refine then_n <| seq_joinJ (fun a w => Ss 102 [] [] H [] F a w ∧ (mortiselaw06_HuffMany.j7 K).wp kr kp) (fun J5448 hJ5448 => ?_) ?_
     ·refine wp_seq ?_
      refine wp_region_list <| st1 hS (asg rfl) rfl fun a w hS => wpList_nil <| then_n <| wp_block <| s_loopJ (fun k5418 a w => ∃ (i5417 : Int), Ss 102 [] [(0, .slice A5394 often5393.length c5395), (1, .int .i64 most5398), (5, .slice A5399 x5401.length c5400), (7, .int .i64 i5417)] H [f5402] F a w ∧ (mortiselaw06_HuffMany.l3 K often5393 most5398 x5401 k5418 i5417).wp kr kp) K ?_ ?_ ?_
      ·exact ⟨(0 : Int), hS.to [0] (by kernel_rfl) ⟨rfl, rfl, rfl, rfl, trivial⟩, hM⟩
      ·intro a w hI; obtain ⟨_, _, hM⟩ := hI; exact wp_fail hM
      ·intro k5418 a w hI J5447 hJ5447
       obtain ⟨i5417, hS, hM⟩ := hI
       rw [mortiselaw06_HuffMany.l3] at hM
       refine wp_seq <| wp_seq <| wp_region_list <| st1 hS (mv rfl) rfl fun a w hS => st1 hS (mv rfl) rfl fun a w hS => st1 hS (lenV rfl Try.runUnderlying22) rfl fun a w hS => st1 hS (bin rfl rfl rfl) rfl fun a w hS => wpList_nil <| then_n <| s_cond hS rfl hM (fun hb5419 hM => ?_) (fun hb5419 hM => ?_)
       ·refine wp_skip ?_
        refine then_n <| wp_seq <| wp_block <| wp_seq <| seq_joinJ (fun a w => ∃ (v5425 : Bool), Ss 102 [] [(0, .slice A5394 often5393.length c5395), (1, .int .i64 most5398), (5, .slice A5399 x5401.length c5400), (7, .int .i64 i5417), (67, .bool v5425)] H [f5402] F a w ∧ (mortiselaw06_HuffMany.j4 K (mortiselaw06_HuffMany.l3 K often5393 most5398 x5401 k5418) often5393 x5401 i5417 v5425).wp kr kp) (fun J5426 hJ5426 => ?_) ?_
        ·obtain ⟨hk5421, hM⟩ := wp_chk hM
         refine ifB (b := (decide ((rd x5401 i5417) > most5398))) hM (fun hb5422 hM => ?_) (fun hb5422 hM => ?_)
         ·refine draw_begin (vals := [some (.slice A5399 x5401.length c5400), some (.int .i64 i5417), some (slp A5399 (Int.toNat i5417 * 1)), some (.int .i64 (rd x5401 i5417)), some (.int .i64 most5398), some (.bool true), some (.bool true), some (undef), some (undef), some (undef), some (undef), some (undef), some (undef), some (undef), some (undef), some (undef), some (undef), some (undef), some (.bool true)]) hS mixed rfl ?_
          intro l w ho hcl hA hst
          refine phqE hA hst ho hcl nmust [0, 1, 2, 3, 4, 5, 6, 7, 8, 9, 10, 11, 12, 13, 14, 15, 16, 17, 18] rfl rfl rfl (by exact ⟨nR rfl rfl rfl rfl rfl (by exact ovE (mv rfl) rfl), nR rfl rfl rfl rfl rfl (by exact ovE (mv rfl) rfl), nR rfl rfl rfl rfl rfl (by exact ovE (ixV rfl rfl Try.runUnderlying22 Try.sizeOf3 (h5404.rd (i := 0) rfl) (fun _ => rfl) rfl hk5421) rfl), nR rfl rfl rfl rfl rfl (by exact ovE (ldV0 rfl (h5404.rd (i := 0) rfl) (fun _ => rfl) hk5421 rfl Try.isAgg3) rfl), nR rfl rfl rfl rfl rfl (by exact ovE (mv rfl) rfl), nR rfl rfl rfl rfl rfl (by exact ovE (bin rfl rfl rfl) (congrArg Value.bool hb5422)), nR rfl rfl rfl rfl rfl (by exact ovE (mv rfl) rfl), nS rfl rfl rfl rfl rfl rfl rfl rfl rfl, nS rfl rfl rfl rfl rfl rfl rfl rfl rfl, nS rfl rfl rfl rfl rfl rfl rfl rfl rfl, nS rfl rfl rfl rfl rfl rfl rfl rfl rfl, nS rfl rfl rfl rfl rfl rfl rfl rfl rfl, nS rfl rfl rfl rfl rfl rfl rfl rfl rfl, nS rfl rfl rfl rfl rfl rfl rfl rfl rfl, nS rfl rfl rfl rfl rfl rfl rfl rfl rfl, nS rfl rfl rfl rfl rfl rfl rfl rfl rfl, nS rfl rfl rfl rfl rfl rfl rfl rfl rfl, nS rfl rfl rfl rfl rfl rfl rfl rfl rfl, nR rfl rfl rfl rfl rfl (by exact ovE (pk rfl rfl rfl) rfl), trivial⟩) fun a w hS => ?_
          replace hS := hS.env2 (e' := [(0, .slice A5394 often5393.length c5395), (1, .int .i64 most5398), (5, .slice A5399 x5401.length c5400), (7, .int .i64 i5417), (67, .bool true)]) ⟨rfl, rfl, rfl, rfl, rfl, trivial⟩
          refine then_n ?_
          exact hJ5426 _ _ ⟨true, hS.to [0] (by kernel_rfl) ⟨rfl, rfl, rfl, rfl, rfl, trivial⟩, hM⟩
         ·obtain ⟨hk5424, hM⟩ := wp_chk hM
          refine draw_begin (vals := [some (.slice A5399 x5401.length c5400), some (.int .i64 i5417), some (slp A5399 (Int.toNat i5417 * 1)), some (.int .i64 (rd x5401 i5417)), some (.int .i64 most5398), some (.bool false), some (.bool false), some (.slice A5399 x5401.length c5400), some (.int .i64 i5417), some (slp A5399 (Int.toNat i5417 * 1)), some (.int .i64 (rd x5401 i5417)), some (.bool ((rd x5401 i5417) == (0 : Int))), some (.slice A5394 often5393.length c5395), some (.int .i64 i5417), some (slp A5394 (Int.toNat i5417 * 1)), some (.int .i64 (rd often5393 i5417)), some (.bool ((rd often5393 i5417) == (0 : Int))), some (.bool (!(((rd x5401 i5417) == (0 : Int)) == ((rd often5393 i5417) == (0 : Int))))), some (.bool (!(((rd x5401 i5417) == (0 : Int)) == ((rd often5393 i5417) == (0 : Int)))))]) hS mixed rfl ?_
          intro l w ho hcl hA hst
          refine phqE hA hst ho hcl nmust [0, 1, 2, 3, 4, 5, 6, 7, 8, 9, 10, 11, 12, 13, 14, 15, 16, 17, 18] rfl rfl rfl (by exact ⟨nR rfl rfl rfl rfl rfl (by exact ovE (mv rfl) rfl), nR rfl rfl rfl rfl rfl (by exact ovE (mv rfl) rfl), nR rfl rfl rfl rfl rfl (by exact ovE (ixV rfl rfl Try.runUnderlying22 Try.sizeOf3 (h5404.rd (i := 0) rfl) (fun _ => rfl) rfl hk5421) rfl), nR rfl rfl rfl rfl rfl (by exact ovE (ldV0 rfl (h5404.rd (i := 0) rfl) (fun _ => rfl) hk5421 rfl Try.isAgg3) rfl), nR rfl rfl rfl rfl rfl (by exact ovE (mv rfl) rfl), nR rfl rfl rfl rfl rfl (by exact ovE (bin rfl rfl rfl) (congrArg Value.bool hb5422)), nR rfl rfl rfl rfl rfl (by exact ovE (mv rfl) rfl), nW rfl rfl rfl rfl rfl rfl rfl rfl (by exact ovE (mv rfl) rfl), nW rfl rfl rfl rfl rfl rfl rfl rfl (by exact ovE (mv rfl) rfl), nW rfl rfl rfl rfl rfl rfl rfl rfl (by exact ovE (ixV rfl rfl Try.runUnderlying22 Try.sizeOf3 (h5404.rd (i := 0) rfl) (fun _ => rfl) rfl hk5421) rfl), nW rfl rfl rfl rfl rfl rfl rfl rfl (by exact ovE (ldV0 rfl (h5404.rd (i := 0) rfl) (fun _ => rfl) hk5421 rfl Try.isAgg3) rfl), nW rfl rfl rfl rfl rfl rfl rfl rfl (by exact ovE (bin rfl rfl rfl) rfl), nW rfl rfl rfl rfl rfl rfl rfl rfl (by exact ovE (mv rfl) rfl), nW rfl rfl rfl rfl rfl rfl rfl rfl (by exact ovE (mv rfl) rfl), nW rfl rfl rfl rfl rfl rfl rfl rfl (by exact ovE (ixV rfl rfl Try.runUnderlying22 Try.sizeOf3 hr5396.wk (fun _ => rfl) rfl hk5424) rfl), nW rfl rfl rfl rfl rfl rfl rfl rfl (by exact ovE (ldV0 rfl hr5396.wk (fun _ => rfl) hk5424 rfl Try.isAgg3) rfl), nW rfl rfl rfl rfl rfl rfl rfl rfl (by exact ovE (bin rfl rfl rfl) rfl), nW rfl rfl rfl rfl rfl rfl rfl rfl (by exact ovE (binB rfl rfl Try.runUnderlying4 rfl) rfl), nR rfl rfl rfl rfl rfl (by exact ovE (pk rfl rfl rfl) rfl), trivial⟩) fun a w hS => ?_
          replace hS := hS.env2 (e' := [(0, .slice A5394 often5393.length c5395), (1, .int .i64 most5398), (5, .slice A5399 x5401.length c5400), (7, .int .i64 i5417), (67, .bool (!(((rd x5401 i5417) == (0 : Int)) == ((rd often5393 i5417) == (0 : Int)))))]) ⟨rfl, rfl, rfl, rfl, rfl, trivial⟩
          refine then_n ?_
          exact hJ5426 _ _ ⟨(!(((rd x5401 i5417) == (0 : Int)) == ((rd often5393 i5417) == (0 : Int)))), hS.to [0] (by kernel_rfl) ⟨rfl, rfl, rfl, rfl, rfl, trivial⟩, hM⟩
        ·intro a w hI
         obtain ⟨v5425, hS, hM⟩ := hI
         rw [mortiselaw06_HuffMany.j4] at hM
         refine s_cond hS rfl hM (fun hb5427 hM => ?_) (fun hb5427 hM => ?_)
         ·refine wp_seq ?_
          refine wp_region_list <| st1 hS (asg rfl) rfl fun a w hS => wpList_nil <| then_n <| wp_ret <| then_ret (blk_ret (then_ret (then_ret (blk_ret (then_ret ?_)))))
          exact s_ret (rs := [4]) hS rfl rfl (hret false w (wp_ok hM) (hS.st.pick [] (by kernel_rfl)))
         ·refine wp_skip ?_
          refine then_n <| wp_seq <| wp_region_list <| st1 hS (asg rfl) rfl fun a w hS => wpList_nil <| then_n <| wp_block <| s_loopJ (fun k5429 a w => ∃ (k_5428 : Int), Ss 102 [] [(0, .slice A5394 often5393.length c5395), (1, .int .i64 most5398), (5, .slice A5399 x5401.length c5400), (7, .int .i64 i5417), (8, .int .i64 k_5428)] H [f5402] F a w ∧ (mortiselaw06_HuffMany.l5 K (mortiselaw06_HuffMany.l3 K often5393 most5398 x5401 k5418) often5393 x5401 i5417 k5429 k_5428).wp kr kp) K ?_ ?_ ?_
          ·exact ⟨(0 : Int), hS.to [0] (by kernel_rfl) ⟨rfl, rfl, rfl, rfl, rfl, trivial⟩, hM⟩
          ·intro a w hI; obtain ⟨_, _, hM⟩ := hI; exact wp_fail hM
          ·intro k5429 a w hI J5446 hJ5446
           obtain ⟨k_5428, hS, hM⟩ := hI
           rw [mortiselaw06_HuffMany.l5] at hM
           refine wp_seq <| wp_seq <| wp_region_list <| st1 hS (mv rfl) rfl fun a w hS => st1 hS (mv rfl) rfl fun a w hS => st1 hS (lenV rfl Try.runUnderlying22) rfl fun a w hS => st1 hS (bin rfl rfl rfl) rfl fun a w hS => wpList_nil <| then_n <| s_cond hS rfl hM (fun hb5430 hM => ?_) (fun hb5430 hM => ?_)
           ·refine wp_skip ?_
            refine then_n <| wp_seq <| wp_block <| seq_joinJ (fun a w => ∃ (v5442 : Bool), Ss 102 [] [(0, .slice A5394 often5393.length c5395), (1, .int .i64 most5398), (5, .slice A5399 x5401.length c5400), (7, .int .i64 i5417), (8, .int .i64 k_5428), (100, .bool v5442)] H [f5402] F a w ∧ (mortiselaw06_HuffMany.j6 K (mortiselaw06_HuffMany.l5 K (mortiselaw06_HuffMany.l3 K often5393 most5398 x5401 k5418) often5393 x5401 i5417 k5429) k_5428 v5442).wp kr kp) (fun J5443 hJ5443 => ?_) ?_
            ·obtain ⟨hk5433, hM⟩ := wp_chk hM
             obtain ⟨hk5435, hM⟩ := wp_chk hM
             refine ifB (b := (decide ((rd often5393 k_5428) > (rd often5393 i5417)))) hM (fun hb5436 hM => ?_) (fun hb5436 hM => ?_)
             ·refine ifB (b := (decide ((rd often5393 i5417) > (0 : Int)))) hM (fun hb5437 hM => ?_) (fun hb5437 hM => ?_)
              ·obtain ⟨hk5439, hM⟩ := wp_chk hM
               obtain ⟨hk5441, hM⟩ := wp_chk hM
               refine draw_begin (vals := [some (.slice A5394 often5393.length c5395), some (.int .i64 k_5428), some (slp A5394 (Int.toNat k_5428 * 1)), some (.int .i64 (rd often5393 k_5428)), some (.slice A5394 often5393.length c5395), some (.int .i64 i5417), some (slp A5394 (Int.toNat i5417 * 1)), some (.int .i64 (rd often5393 i5417)), some (.bool true), some (.bool true), some (.slice A5394 often5393.length c5395), some (.int .i64 i5417), some (slp A5394 (Int.toNat i5417 * 1)), some (.int .i64 (rd often5393 i5417)), some (.bool true), some (.bool true), some (.bool true), some (.slice A5399 x5401.length c5400), some (.int .i64 k_5428), some (slp A5399 (Int.toNat k_5428 * 1)), some (.int .i64 (rd x5401 k_5428)), some (.slice A5399 x5401.length c5400), some (.int .i64 i5417), some (slp A5399 (Int.toNat i5417 * 1)), some (.int .i64 (rd x5401 i5417)), some (.bool (decide ((rd x5401 k_5428) > (rd x5401 i5417)))), some (.bool (decide ((rd x5401 k_5428) > (rd x5401 i5417))))]) hS mixed rfl ?_
               intro l w ho hcl hA hst
               refine phqE hA hst ho hcl nmust [0, 1, 2, 3, 4, 5, 6, 7, 8, 9, 10, 11, 12, 13, 14, 15, 16, 17, 18, 19, 20, 21, 22, 23, 24, 25, 26] rfl rfl rfl (by exact ⟨nR rfl rfl rfl rfl rfl (by exact ovE (mv rfl) rfl), nR rfl rfl rfl rfl rfl (by exact ovE (mv rfl) rfl), nR rfl rfl rfl rfl rfl (by exact ovE (ixV rfl rfl Try.runUnderlying22 Try.sizeOf3 hr5396.wk (fun _ => rfl) rfl hk5433) rfl), nR rfl rfl rfl rfl rfl (by exact ovE (ldV0 rfl hr5396.wk (fun _ => rfl) hk5433 rfl Try.isAgg3) rfl), nR rfl rfl rfl rfl rfl (by exact ovE (mv rfl) rfl), nR rfl rfl rfl rfl rfl (by exact ovE (mv rfl) rfl), nR rfl rfl rfl rfl rfl (by exact ovE (ixV rfl rfl Try.runUnderlying22 Try.sizeOf3 hr5396.wk (fun _ => rfl) rfl hk5435) rfl), nR rfl rfl rfl rfl rfl (by exact ovE (ldV0 rfl hr5396.wk (fun _ => rfl) hk5435 rfl Try.isAgg3) rfl), nR rfl rfl rfl rfl rfl (by exact ovE (bin rfl rfl rfl) (congrArg Value.bool hb5436)), nR rfl rfl rfl rfl rfl (by exact ovE (mv rfl) rfl), nW rfl rfl rfl rfl rfl rfl rfl rfl (by exact ovE (mv rfl) rfl), nW rfl rfl rfl rfl rfl rfl rfl rfl (by exact ovE (mv rfl) rfl), nW rfl rfl rfl rfl rfl rfl rfl rfl (by exact ovE (ixV rfl rfl Try.runUnderlying22 Try.sizeOf3 hr5396.wk (fun _ => rfl) rfl hk5435) rfl), nW rfl rfl rfl rfl rfl rfl rfl rfl (by exact ovE (ldV0 rfl hr5396.wk (fun _ => rfl) hk5435 rfl Try.isAgg3) rfl), nW rfl rfl rfl rfl rfl rfl rfl rfl (by exact ovE (bin rfl rfl rfl) (congrArg Value.bool hb5437)), nR rfl rfl rfl rfl rfl (by exact ovE (pk rfl rfl rfl) rfl), nR rfl rfl rfl rfl rfl (by exact ovE (mv rfl) rfl), nW rfl rfl rfl rfl rfl rfl rfl rfl (by exact ovE (mv rfl) rfl), nW rfl rfl rfl rfl rfl rfl rfl rfl (by exact ovE (mv rfl) rfl), nW rfl rfl rfl rfl rfl rfl rfl rfl (by exact ovE (ixV rfl rfl Try.runUnderlying22 Try.sizeOf3 (h5404.rd (i := 0) rfl) (fun _ => rfl) rfl hk5439) rfl), nW rfl rfl rfl rfl rfl rfl rfl rfl (by exact ovE (ldV0 rfl (h5404.rd (i := 0) rfl) (fun _ => rfl) hk5439 rfl Try.isAgg3) rfl), nW rfl rfl rfl rfl rfl rfl rfl rfl (by exact ovE (mv rfl) rfl), nW rfl rfl rfl rfl rfl rfl rfl rfl (by exact ovE (mv rfl) rfl), nW rfl rfl rfl rfl rfl rfl rfl rfl (by exact ovE (ixV rfl rfl Try.runUnderlying22 Try.sizeOf3 (h5404.rd (i := 0) rfl) (fun _ => rfl) rfl hk5441) rfl), nW rfl rfl rfl rfl rfl rfl rfl rfl (by exact ovE (ldV0 rfl (h5404.rd (i := 0) rfl) (fun _ => rfl) hk5441 rfl Try.isAgg3) rfl), nW rfl rfl rfl rfl rfl rfl rfl rfl (by exact ovE (bin rfl rfl rfl) rfl), nR rfl rfl rfl rfl rfl (by exact ovE (pk rfl rfl rfl) rfl), trivial⟩) fun a w hS => ?_
               replace hS := hS.env2 (e' := [(0, .slice A5394 often5393.length c5395), (1, .int .i64 most5398), (5, .slice A5399 x5401.length c5400), (7, .int .i64 i5417), (8, .int .i64 k_5428), (100, .bool (decide ((rd x5401 k_5428) > (rd x5401 i5417))))]) ⟨rfl, rfl, rfl, rfl, rfl, rfl, trivial⟩
               refine then_n ?_
               exact hJ5443 _ _ ⟨(decide ((rd x5401 k_5428) > (rd x5401 i5417))), hS.to [0] (by kernel_rfl) ⟨rfl, rfl, rfl, rfl, rfl, rfl, trivial⟩, hM⟩
              ·refine draw_begin (vals := [some (.slice A5394 often5393.length c5395), some (.int .i64 k_5428), some (slp A5394 (Int.toNat k_5428 * 1)), some (.int .i64 (rd often5393 k_5428)), some (.slice A5394 often5393.length c5395), some (.int .i64 i5417), some (slp A5394 (Int.toNat i5417 * 1)), some (.int .i64 (rd often5393 i5417)), some (.bool true), some (.bool true), some (.slice A5394 often5393.length c5395), some (.int .i64 i5417), some (slp A5394 (Int.toNat i5417 * 1)), some (.int .i64 (rd often5393 i5417)), some (.bool false), some (.bool false), some (.bool false), some (undef), some (undef), some (undef), some (undef), some (undef), some (undef), some (undef), some (undef), some (undef), some (.bool false)]) hS mixed rfl ?_
               intro l w ho hcl hA hst
               refine phqE hA hst ho hcl nmust [0, 1, 2, 3, 4, 5, 6, 7, 8, 9, 10, 11, 12, 13, 14, 15, 16, 17, 18, 19, 20, 21, 22, 23, 24, 25, 26] rfl rfl rfl (by exact ⟨nR rfl rfl rfl rfl rfl (by exact ovE (mv rfl) rfl), nR rfl rfl rfl rfl rfl (by exact ovE (mv rfl) rfl), nR rfl rfl rfl rfl rfl (by exact ovE (ixV rfl rfl Try.runUnderlying22 Try.sizeOf3 hr5396.wk (fun _ => rfl) rfl hk5433) rfl), nR rfl rfl rfl rfl rfl (by exact ovE (ldV0 rfl hr5396.wk (fun _ => rfl) hk5433 rfl Try.isAgg3) rfl), nR rfl rfl rfl rfl rfl (by exact ovE (mv rfl) rfl), nR rfl rfl rfl rfl rfl (by exact ovE (mv rfl) rfl), nR rfl rfl rfl rfl rfl (by exact ovE (ixV rfl rfl Try.runUnderlying22 Try.sizeOf3 hr5396.wk (fun _ => rfl) rfl hk5435) rfl), nR rfl rfl rfl rfl rfl (by exact ovE (ldV0 rfl hr5396.wk (fun _ => rfl) hk5435 rfl Try.isAgg3) rfl), nR rfl rfl rfl rfl rfl (by exact ovE (bin rfl rfl rfl) (congrArg Value.bool hb5436)), nR rfl rfl rfl rfl rfl (by exact ovE (mv rfl) rfl), nW rfl rfl rfl rfl rfl rfl rfl rfl (by exact ovE (mv rfl) rfl), nW rfl rfl rfl rfl rfl rfl rfl rfl (by exact ovE (mv rfl) rfl), nW rfl rfl rfl rfl rfl rfl rfl rfl (by exact ovE (ixV rfl rfl Try.runUnderlying22 Try.sizeOf3 hr5396.wk (fun _ => rfl) rfl hk5435) rfl), nW rfl rfl rfl rfl rfl rfl rfl rfl (by exact ovE (ldV0 rfl hr5396.wk (fun _ => rfl) hk5435 rfl Try.isAgg3) rfl), nW rfl rfl rfl rfl rfl rfl rfl rfl (by exact ovE (bin rfl rfl rfl) (congrArg Value.bool hb5437)), nR rfl rfl rfl rfl rfl (by exact ovE (pk rfl rfl rfl) rfl), nR rfl rfl rfl rfl rfl (by exact ovE (mv rfl) rfl), nS rfl rfl rfl rfl rfl rfl rfl rfl rfl, nS rfl rfl rfl rfl rfl rfl rfl rfl rfl, nS rfl rfl rfl rfl rfl rfl rfl rfl rfl, nS rfl rfl rfl rfl rfl rfl rfl rfl rfl, nS rfl rfl rfl rfl rfl rfl rfl rfl rfl, nS rfl rfl rfl rfl rfl rfl rfl rfl rfl, nS rfl rfl rfl rfl rfl rfl rfl rfl rfl, nS rfl rfl rfl rfl rfl rfl rfl rfl rfl, nS rfl rfl rfl rfl rfl rfl rfl rfl rfl, nR rfl rfl rfl rfl rfl (by exact ovE (pk rfl rfl rfl) rfl), trivial⟩) fun a w hS => ?_
               replace hS := hS.env2 (e' := [(0, .slice A5394 often5393.length c5395), (1, .int .i64 most5398), (5, .slice A5399 x5401.length c5400), (7, .int .i64 i5417), (8, .int .i64 k_5428), (100, .bool false)]) ⟨rfl, rfl, rfl, rfl, rfl, rfl, trivial⟩
               refine then_n ?_
               exact hJ5443 _ _ ⟨false, hS.to [0] (by kernel_rfl) ⟨rfl, rfl, rfl, rfl, rfl, rfl, trivial⟩, hM⟩
             ·refine draw_begin (vals := [some (.slice A5394 often5393.length c5395), some (.int .i64 k_5428), some (slp A5394 (Int.toNat k_5428 * 1)), some (.int .i64 (rd often5393 k_5428)), some (.slice A5394 often5393.length c5395), some (.int .i64 i5417), some (slp A5394 (Int.toNat i5417 * 1)), some (.int .i64 (rd often5393 i5417)), some (.bool false), some (.bool false), some (undef), some (undef), some (undef), some (undef), some (undef), some (.bool false), some (.bool false), some (undef), some (undef), some (undef), some (undef), some (undef), some (undef), some (undef), some (undef), some (undef), some (.bool false)]) hS mixed rfl ?_
              intro l w ho hcl hA hst
              refine phqE hA hst ho hcl nmust [0, 1, 2, 3, 4, 5, 6, 7, 8, 9, 10, 11, 12, 13, 14, 15, 16, 17, 18, 19, 20, 21, 22, 23, 24, 25, 26] rfl rfl rfl (by exact ⟨nR rfl rfl rfl rfl rfl (by exact ovE (mv rfl) rfl), nR rfl rfl rfl rfl rfl (by exact ovE (mv rfl) rfl), nR rfl rfl rfl rfl rfl (by exact ovE (ixV rfl rfl Try.runUnderlying22 Try.sizeOf3 hr5396.wk (fun _ => rfl) rfl hk5433) rfl), nR rfl rfl rfl rfl rfl (by exact ovE (ldV0 rfl hr5396.wk (fun _ => rfl) hk5433 rfl Try.isAgg3) rfl), nR rfl rfl rfl rfl rfl (by exact ovE (mv rfl) rfl), nR rfl rfl rfl rfl rfl (by exact ovE (mv rfl) rfl), nR rfl rfl rfl rfl rfl (by exact ovE (ixV rfl rfl Try.runUnderlying22 Try.sizeOf3 hr5396.wk (fun _ => rfl) rfl hk5435) rfl), nR rfl rfl rfl rfl rfl (by exact ovE (ldV0 rfl hr5396.wk (fun _ => rfl) hk5435 rfl Try.isAgg3) rfl), nR rfl rfl rfl rfl rfl (by exact ovE (bin rfl rfl rfl) (congrArg Value.bool hb5436)), nR rfl rfl rfl rfl rfl (by exact ovE (mv rfl) rfl), nS rfl rfl rfl rfl rfl rfl rfl rfl rfl, nS rfl rfl rfl rfl rfl rfl rfl rfl rfl, nS rfl rfl rfl rfl rfl rfl rfl rfl rfl, nS rfl rfl rfl rfl rfl rfl rfl rfl rfl, nS rfl rfl rfl rfl rfl rfl rfl rfl rfl, nR rfl rfl rfl rfl rfl (by exact ovE (pk rfl rfl rfl) rfl), nR rfl rfl rfl rfl rfl (by exact ovE (mv rfl) rfl), nS rfl rfl rfl rfl rfl rfl rfl rfl rfl, nS rfl rfl rfl rfl rfl rfl rfl rfl rfl, nS rfl rfl rfl rfl rfl rfl rfl rfl rfl, nS rfl rfl rfl rfl rfl rfl rfl rfl rfl, nS rfl rfl rfl rfl rfl rfl rfl rfl rfl, nS rfl rfl rfl rfl rfl rfl rfl rfl rfl, nS rfl rfl rfl rfl rfl rfl rfl rfl rfl, nS rfl rfl rfl rfl rfl rfl rfl rfl rfl, nS rfl rfl rfl rfl rfl rfl rfl rfl rfl, nR rfl rfl rfl rfl rfl (by exact ovE (pk rfl rfl rfl) rfl), trivial⟩) fun a w hS => ?_
              replace hS := hS.env2 (e' := [(0, .slice A5394 often5393.length c5395), (1, .int .i64 most5398), (5, .slice A5399 x5401.length c5400), (7, .int .i64 i5417), (8, .int .i64 k_5428), (100, .bool false)]) ⟨rfl, rfl, rfl, rfl, rfl, rfl, trivial⟩
              refine then_n ?_
              exact hJ5443 _ _ ⟨false, hS.to [0] (by kernel_rfl) ⟨rfl, rfl, rfl, rfl, rfl, rfl, trivial⟩, hM⟩
            ·intro a w hI
             obtain ⟨v5442, hS, hM⟩ := hI
             rw [mortiselaw06_HuffMany.j6] at hM
             refine s_cond hS rfl hM (fun hb5444 hM => ?_) (fun hb5444 hM => ?_)
             ·refine wp_seq ?_
              refine wp_region_list <| st1 hS (asg rfl) rfl fun a w hS => wpList_nil <| then_n <| wp_ret <| blk_ret (then_ret (then_ret (blk_ret (blk_ret (then_ret (then_ret (blk_ret (then_ret ?_))))))))
              exact s_ret (rs := [4]) hS rfl rfl (hret false w (wp_ok hM) (hS.st.pick [] (by kernel_rfl)))
             ·refine wp_skip ?_
              refine blk_n (then_n ?_)
              refine wp_region_list <| st1 hS (mv rfl) rfl fun a w hS => st1 hS (bin rfl rfl rfl) rfl fun a w hS => st1x (v := Value.int .i64) (x0 := (w64 (k_5428 + (1 : Int)))) hS (asg rfl) rfl fun k_5445 a w hz hS => ?_
              have hM := lt_to hz hM; clear hz
              refine wpList_nil <| then_n ?_
              exact hJ5446 _ _ ⟨k_5445, hS.to [0] (by kernel_rfl) ⟨rfl, rfl, rfl, rfl, rfl, trivial⟩, hM⟩
           ·refine wp_exit ?_
            refine then_ex (then_ex (blk_same (blk_n (then_n ?_))))
            refine wp_region_list <| st1 hS (mv rfl) rfl fun a w hS => st1 hS (bin rfl rfl rfl) rfl fun a w hS => st1x (v := Value.int .i64) (x0 := (w64 (i5417 + (1 : Int)))) hS (asg rfl) rfl fun i5431 a w hz hS => ?_
            have hM := lt_to hz hM; clear hz
            refine wpList_nil <| then_n ?_
            exact hJ5447 _ _ ⟨i5431, hS.to [0] (by kernel_rfl) ⟨rfl, rfl, rfl, rfl, trivial⟩, hM⟩
       ·refine wp_exit ?_
        refine then_ex (then_ex (blk_same (then_n ?_)))
        exact hJ5448 _ _ ⟨hS.to [] (by kernel_rfl) trivial, hM⟩
     ·intro a w hI
      obtain ⟨hS, hM⟩ := hI
      rw [mortiselaw06_HuffMany.j7] at hM
      refine wp_seq <| wp_region_list <| s_call hS rfl Try.call14 (mortiselaw06_live_c hG K  (hS.st.part 0 [] (by kernel_rfl)) (wp_bind hM) (fun x5449 w hM  hst => s_back hS.ev hst.appF rfl fun hS => ?_) (fun v w hk hst => s_pan (then_pan (⟨hS.ev.defs, hpan _ _ hk hst.appF.frame⟩))))
      replace hS : Ss _ _ _ H [] F _ _ := hS
      refine st1 hS (asg rfl) rfl fun a w hS => wpList_nil <| then_n <| wp_ret ?_
      exact s_ret (rs := [4]) hS rfl rfl (hret x5449 w (wp_ok hM) (hS.st.pick [] (by kernel_rfl)))

theorem mortiselaw06_HuffApart_c {H : Imm} {F : List Frag} {w : World} {R : Ending → World → Prop} {kr : Bool → Prop} {kp : Value → Prop} (hG : Gl H) (K : Nat) (l_5451 : List Int) (A5452 : Option Addr) (c5453 : Nat) (hr5454 : Rdl H [] F (ci .i64) A5452 l_5451) (hc5455 : l_5451.length ≤ c5453)
    (hS : St w H [] F) (hm : (mortiselaw06_HuffApart.m K l_5451).wp kr kp)
    (hret : ∀ (x5496 : Bool) (w : World), kr x5496 → St w H [] F → R (.returned (.bool x5496)) w)
    (hpan : ∀ v w, kp v → St w H [] F → R (.panicked [⟨v, false, false⟩]) w) :
    Calls Try.prog 7 ⟨[.slice A5452 l_5451.length c5453]⟩ w R := by
 refine enter Try.func7 rfl Try.ntmps7 rfl hS fun a w hS => ?_
 have hM := hm; clear hm
 rw [mortiselaw06_HuffApart.m] at hM
 refine wp_seq <| wp_region_list <| st1 hS (asg rfl) rfl fun a w hS => wpList_nil <| then_n <| wp_seq <| wp_region_list <| st1 hS (mv rfl) rfl fun a w hS => s_call hS rfl Try.call9 (huff_Codes_c hG K l_5451 A5452 c5453 (hr5454.app _) hc5455 (hS.st.part 0 [] (by kernel_rfl)) (wp_bind hM) (fun A5456 c5457 x5458 f5459 x5460 w hM h5461 hst => s_back hS.ev hst.appF rfl fun hS => ?_))
 replace hS : Ss _ _ _ H [f5459] F _ _ := hS
 refine st1 hS (mv rfl) rfl fun a w hS => st1 hS (ex rfl rfl) rfl fun a w hS => st1 hS (ex rfl rfl) rfl fun a w hS => st1 hS (asg rfl) rfl fun a w hS => st1 hS (asg rfl) rfl fun a w hS => wpList_nil <| then_n <| wp_seq <| wp_seq <| wp_region_list <| st1 hS (mv rfl) rfl fun a w hS => st1 hS (bin rfl rfl rfl) rfl fun a w hS => wpList_nil <| then_n <| s_cond hS rfl hM (fun hb5462 hM => ?_) (fun hb5462 hM => ?_)
 ·refine wp_seq ?_
  refine wp_region_list <| st1 hS (mv rfl) rfl fun a w hS => st1 hS (lenV rfl Try.runUnderlying22) rfl fun a w hS => st1 hS (bin rfl rfl rfl) rfl fun a w hS => st1 hS (mv rfl) rfl fun a w hS => seg_cutJ (fun a w => ∃ (v5465 : Bool), Ss 81 [] [(19, .bool v5465)] H [] F a w ∧ (mortiselaw06_HuffApart.j1 K v5465).wp kr kp) 2 (fun J5466 hJ5466 => ?_) ?_
  ·refine ifB (b := ((x5458.length : Int) == (0 : Int))) hM (fun hb5463 hM => ?_) (fun hb5463 hM => ?_)
   ·replace hS := hS.re 16 (v := .bool true) rfl (congrArg Value.bool hb5463)
    replace hS := hS.re 17 (v := .bool true) rfl (congrArg Value.bool hb5463)
    refine unguard hS rfl rfl rfl rfl <| s_call hS rfl Try.call14 (mortiselaw06_live_c hG K  (hS.st.part 0 [0] (by kernel_rfl)) (wp_bind hM) (fun x5464 w hM  hst => s_back hS.ev hst.appF rfl fun hS => ?_) (fun v w hk hst => s_pan (then_pan (then_pan (then_pan (⟨hS.ev.defs, hpan _ _ hk hst.appF.frame⟩))))))
    replace hS : Ss _ _ _ H [f5459] F _ _ := hS
    refine st1 hS (pk rfl rfl rfl) rfl fun a w hS => wpList_nil <| then_n ?_
    exact hJ5466 _ _ ⟨x5464, hS.to [] (by kernel_rfl) ⟨rfl, trivial⟩, hM⟩
   ·replace hS := hS.re 16 (v := .bool false) rfl (congrArg Value.bool hb5463)
    replace hS := hS.re 17 (v := .bool false) rfl (congrArg Value.bool hb5463)
    refine skips 1 hS rfl fun a w hS => st1 hS (pk rfl rfl rfl) rfl fun a w hS => wpList_nil <| then_n ?_
    exact hJ5466 _ _ ⟨false, hS.to [] (by kernel_rfl) ⟨rfl, trivial⟩, hM⟩
  ·intro a w hI
   obtain ⟨v5465, hS, hM⟩ := hI
   rw [mortiselaw06_HuffApart.j1] at hM
   refine st1 hS (asg rfl) rfl fun a w hS => wpList_nil <| then_n <| wp_ret <| then_ret ?_
   exact s_ret (rs := [2]) hS rfl rfl (hret v5465 w (wp_ok hM) (hS.st.pick [] (by kernel_rfl)))
 ·refine wp_skip ?_
  refine then_n <| wp_seq <| wp_seq <| wp_region_list <| st1 hS (mv rfl) rfl fun a w hS => st1 hS (lenV rfl Try.runUnderlying22) rfl fun a w hS => st1 hS (mv rfl) rfl fun a w hS => st1 hS (lenV rfl Try.runUnderlying22) rfl fun a w hS => st1 hS (bin rfl rfl rfl) rfl fun a w hS => wpList_nil <| then_n <| s_cond hS rfl hM (fun hb5467 hM => ?_) (fun hb5467 hM => ?_)
  ·refine wp_seq ?_
   refine wp_region_list <| st1 hS (asg rfl) rfl fun a w hS => wpList_nil <| then_n <| wp_ret <| then_ret ?_
   exact s_ret (rs := [2]) hS rfl rfl (hret false w (wp_ok hM) (hS.st.pick [] (by kernel_rfl)))
  ·refine wp_skip ?_
   refine then_n <| seq_joinJ (fun a w => Ss 81 [] [] H [] F a w ∧ (mortiselaw06_HuffApart.j5 K).wp kr kp) (fun J5494 hJ5494 => ?_) ?_
   ·refine wp_seq ?_
    refine wp_region_list <| st1 hS (asg rfl) rfl fun a w hS => wpList_nil <| then_n <| wp_block <| s_loopJ (fun k5469 a w => ∃ (i5468 : Int), Ss 81 [] [(0, .slice A5452 l_5451.length c5453), (3, .slice A5456 x5458.length c5457), (5, .int .i64 i5468)] H [f5459] F a w ∧ (mortiselaw06_HuffApart.l2 K l_5451 x5458 k5469 i5468).wp kr kp) K ?_ ?_ ?_
    ·exact ⟨(0 : Int), hS.to [0] (by kernel_rfl) ⟨rfl, rfl, rfl, trivial⟩, hM⟩
    ·intro a w hI; obtain ⟨_, _, hM⟩ := hI; exact wp_fail hM
    ·intro k5469 a w hI J5493 hJ5493
     obtain ⟨i5468, hS, hM⟩ := hI
     rw [mortiselaw06_HuffApart.l2] at hM
     refine wp_seq <| wp_seq <| wp_region_list <| st1 hS (mv rfl) rfl fun a w hS => st1 hS (mv rfl) rfl fun a w hS => st1 hS (lenV rfl Try.runUnderlying22) rfl fun a w hS => st1 hS (bin rfl rfl rfl) rfl fun a w hS => wpList_nil <| then_n <| s_cond hS rfl hM (fun hb5470 hM => ?_) (fun hb5470 hM => ?_)
     ·refine wp_skip ?_
      refine then_n <| wp_seq <| wp_block <| wp_seq <| wp_region_list <| st1 hS (asg rfl) rfl fun a w hS => wpList_nil <| then_n <| wp_block <| s_loopJ (fun k5472 a w => ∃ (k_5471 : Int), Ss 81 [] [(0, .slice A5452 l_5451.length c5453), (3, .slice A5456 x5458.length c5457), (5, .int .i64 i5468), (6, .int .i64 k_5471)] H [f5459] F a w ∧ (mortiselaw06_HuffApart.l3 K (mortiselaw06_HuffApart.l2 K l_5451 x5458 k5469) l_5451 x5458 i5468 k5472 k_5471).wp kr kp) K ?_ ?_ ?_
      ·exact ⟨(0 : Int), hS.to [0] (by kernel_rfl) ⟨rfl, rfl, rfl, rfl, trivial⟩, hM⟩
      ·intro a w hI; obtain ⟨_, _, hM⟩ := hI; exact wp_fail hM
      ·intro k5472 a w hI J5492 hJ5492
       obtain ⟨k_5471, hS, hM⟩ := hI
       rw [mortiselaw06_HuffApart.l3] at hM
       refine wp_seq <| wp_seq <| wp_region_list <| st1 hS (mv rfl) rfl fun a w hS => st1 hS (mv rfl) rfl fun a w hS => st1 hS (lenV rfl Try.runUnderlying22) rfl fun a w hS => st1 hS (bin rfl rfl rfl) rfl fun a w hS => wpList_nil <| then_n <| s_cond hS rfl hM (fun hb5473 hM => ?_) (fun hb5473 hM => ?_)
       ·refine wp_skip ?_
        refine then_n <| wp_seq <| wp_block <| seq_joinJ (fun a w => ∃ (v5488 : Bool), Ss 81 [] [(0, .slice A5452 l_5451.length c5453), (3, .slice A5456 x5458.length c5457), (5, .int .i64 i5468), (6, .int .i64 k_5471), (79, .bool v5488)] H [f5459] F a w ∧ (mortiselaw06_HuffApart.j4 K (mortiselaw06_HuffApart.l3 K (mortiselaw06_HuffApart.l2 K l_5451 x5458 k5469) l_5451 x5458 i5468 k5472) k_5471 v5488).wp kr kp) (fun J5489 hJ5489 => ?_) ?_
        ·refine ifB (b := (i5468 != k_5471)) hM (fun hb5475 hM => ?_) (fun hb5475 hM => ?_)
         ·obtain ⟨hk5477, hM⟩ := wp_chk hM
          refine ifB (b := (decide ((rd l_5451 i5468) > (0 : Int)))) hM (fun hb5478 hM => ?_) (fun hb5478 hM => ?_)
          ·obtain ⟨hk5480, hM⟩ := wp_chk hM
           refine ifB (b := (decide ((rd l_5451 k_5471) ≥ (rd l_5451 i5468)))) hM (fun hb5481 hM => ?_) (fun hb5481 hM => ?_)
           ·obtain ⟨hk5483, hM⟩ := wp_chk hM
            obtain ⟨hk5485, hM⟩ := wp_chk hM
            obtain ⟨hk5487, hM⟩ := wp_chk hM
            refine draw_begin (vals := [some (.int .i64 i5468), some (.int .i64 k_5471), some (.bool true), some (.bool true), some (.slice A5452 l_5451.length c5453), some (.int .i64 i5468), some (slp A5452 (Int.toNat i5468 * 1)), some (.int .i64 (rd l_5451 i5468)), some (.bool true), some (.bool true), some (.bool true), some (.slice A5452 l_5451.length c5453), some (.int .i64 k_5471), some (slp A5452 (Int.toNat k_5471 * 1)), some (.int .i64 (rd l_5451 k_5471)), some (.slice A5452 l_5451.length c5453), some (.int .i64 i5468), some (slp A5452 (Int.toNat i5468 * 1)), some (.int .i64 (rd l_5451 i5468)), some (.bool true), some (.bool true), some (.bool true), some (.slice A5456 x5458.length c5457), some (.int .i64 k_5471), some (slp A5456 (Int.toNat k_5471 * 1)), some (.int .i64 (rd x5458 k_5471)), some (.slice A5452 l_5451.length c5453), some (.int .i64 k_5471), some (slp A5452 (Int.toNat k_5471 * 1)), some (.int .i64 (rd l_5451 k_5471)), some (.slice A5452 l_5451.length c5453), some (.int .i64 i5468), some (slp A5452 (Int.toNat i5468 * 1)), some (.int .i64 (rd l_5451 i5468)), some (.int .i64 (w64 ((rd l_5451 k_5471) - (rd l_5451 i5468)))), some (.int .u64 (wr .u64 (w64 ((rd l_5451 k_5471) - (rd l_5451 i5468))))), some (.int .i64 (ishr .i64 (rd x5458 k_5471) (wr .u64 (w64 ((rd l_5451 k_5471) - (rd l_5451 i5468)))))), some (.slice A5456 x5458.length c5457), some (.int .i64 i5468), some (slp A5456 (Int.toNat i5468 * 1)), some (.int .i64 (rd x5458 i5468)), some (.bool ((ishr .i64 (rd x5458 k_5471) (wr .u64 (w64 ((rd l_5451 k_5471) - (rd l_5451 i5468))))) == (rd x5458 i5468))), some (.bool ((ishr .i64 (rd x5458 k_5471) (wr .u64 (w64 ((rd l_5451 k_5471) - (rd l_5451 i5468))))) == (rd x5458 i5468)))]) hS mixed rfl ?_
            intro l w ho hcl hA hst
            refine phqE hA hst ho hcl nmust [0, 1, 2, 3, 4, 5, 6, 7, 8, 9, 10, 11, 12, 13, 14, 15, 16, 17, 18, 19, 20, 21, 22, 23, 24, 25, 26, 27, 28, 29, 30, 31, 32, 33, 34, 35, 36, 37, 38, 39, 40, 41, 42] rfl rfl rfl (by exact ⟨nR rfl rfl rfl rfl rfl (by exact ovE (mv rfl) rfl), nR rfl rfl rfl rfl rfl (by exact ovE (mv rfl) rfl), nR rfl rfl rfl rfl rfl (by exact ovE (bin rfl rfl rfl) (congrArg Value.bool hb5475)), nR rfl rfl rfl rfl rfl (by exact ovE (mv rfl) rfl), nW rfl rfl rfl rfl rfl rfl rfl rfl (by exact ovE (mv rfl) rfl), nW rfl rfl rfl rfl rfl rfl rfl rfl (by exact ovE (mv rfl) rfl), nW rfl rfl rfl rfl rfl rfl rfl rfl (by exact ovE (ixV rfl rfl Try.runUnderlying22 Try.sizeOf3 hr5454.wk (fun _ => rfl) rfl hk5477) rfl), nW rfl rfl rfl rfl rfl rfl rfl rfl (by exact ovE (ldV0 rfl hr5454.wk (fun _ => rfl) hk5477 rfl Try.isAgg3) rfl), nW rfl rfl rfl rfl rfl rfl rfl rfl (by exact ovE (bin rfl rfl rfl) (congrArg Value.bool hb5478)), nR rfl rfl rfl rfl rfl (by exact ovE (pk rfl rfl rfl) rfl), nR rfl rfl rfl rfl rfl (by exact ovE (mv rfl) rfl), nW rfl rfl rfl rfl rfl rfl rfl rfl (by exact ovE (mv rfl) rfl), nW rfl rfl rfl rfl rfl rfl rfl rfl (by exact ovE (mv rfl) rfl), nW rfl rfl rfl rfl rfl rfl rfl rfl (by exact ovE (ixV rfl rfl Try.runUnderlying22 Try.sizeOf3 hr5454.wk (fun _ => rfl) rfl hk5480) rfl), nW rfl rfl rfl rfl rfl rfl rfl rfl (by exact ovE (ldV0 rfl hr5454.wk (fun _ => rfl) hk5480 rfl Try.isAgg3) rfl), nW rfl rfl rfl rfl rfl rfl rfl rfl (by exact ovE (mv rfl) rfl), nW rfl rfl rfl rfl rfl rfl rfl rfl (by exact ovE (mv rfl) rfl), nW rfl rfl rfl rfl rfl rfl rfl rfl (by exact ovE (ixV rfl rfl Try.runUnderlying22 Try.sizeOf3 hr5454.wk (fun _ => rfl) rfl hk5477) rfl), nW rfl rfl rfl rfl rfl rfl rfl rfl (by exact ovE (ldV0 rfl hr5454.wk (fun _ => rfl) hk5477 rfl Try.isAgg3) rfl), nW rfl rfl rfl rfl rfl rfl rfl rfl (by exact ovE (bin rfl rfl rfl) (congrArg Value.bool hb5481)), nR rfl rfl rfl rfl rfl (by exact ovE (pk rfl rfl rfl) rfl), nR rfl rfl rfl rfl rfl (by exact ovE (mv rfl) rfl), nW rfl rfl rfl rfl rfl rfl rfl rfl (by exact ovE (mv rfl) rfl), nW rfl rfl rfl rfl rfl rfl rfl rfl (by exact ovE (mv rfl) rfl), nW rfl rfl rfl rfl rfl rfl rfl rfl (by exact ovE (ixV rfl rfl Try.runUnderlying22 Try.sizeOf3 (h5461.rd (i := 0) rfl) (fun _ => rfl) rfl hk5483) rfl), nW rfl rfl rfl rfl rfl rfl rfl rfl (by exact ovE (ldV0 rfl (h5461.rd (i := 0) rfl) (fun _ => rfl) hk5483 rfl Try.isAgg3) rfl), nW rfl rfl rfl rfl rfl rfl rfl rfl (by exact ovE (mv rfl) rfl), nW rfl rfl rfl rfl rfl rfl rfl rfl (by exact ovE (mv rfl) rfl), nW rfl rfl rfl rfl rfl rfl rfl rfl (by exact ovE (ixV rfl rfl Try.runUnderlying22 Try.sizeOf3 hr5454.wk (fun _ => rfl) rfl hk5480) rfl), nW rfl rfl rfl rfl rfl rfl rfl rfl (by exact ovE (ldV0 rfl hr5454.wk (fun _ => rfl) hk5480 rfl Try.isAgg3) rfl), nW rfl rfl rfl rfl rfl rfl rfl rfl (by exact ovE (mv rfl) rfl), nW rfl rfl rfl rfl rfl rfl rfl rfl (by exact ovE (mv rfl) rfl), nW rfl rfl rfl rfl rfl rfl rfl rfl (by exact ovE (ixV rfl rfl Try.runUnderlying22 Try.sizeOf3 hr5454.wk (fun _ => rfl) rfl hk5477) rfl), nW rfl rfl rfl rfl rfl rfl rfl rfl (by exact ovE (ldV0 rfl hr5454.wk (fun _ => rfl) hk5477 rfl Try.isAgg3) rfl), nW rfl rfl rfl rfl rfl rfl rfl rfl (by exact ovE (bin rfl rfl rfl) rfl), nW rfl rfl rfl rfl rfl rfl rfl rfl (by exact ovE (cvi rfl Try.runUnderlying3 Try.runUnderlying46) rfl), nW rfl rfl rfl rfl rfl rfl rfl rfl (by exact ovE (shr rfl rfl hk5485) rfl), nW rfl rfl rfl rfl rfl rfl rfl rfl (by exact ovE (mv rfl) rfl), nW rfl rfl rfl rfl rfl rfl rfl rfl (by exact ovE (mv rfl) rfl), nW rfl rfl rfl rfl rfl rfl rfl rfl (by exact ovE (ixV rfl rfl Try.runUnderlying22 Try.sizeOf3 (h5461.rd (i := 0) rfl) (fun _ => rfl) rfl hk5487) rfl), nW rfl rfl rfl rfl rfl rfl rfl rfl (by exact ovE (ldV0 rfl (h5461.rd (i := 0) rfl) (fun _ => rfl) hk5487 rfl Try.isAgg3) rfl), nW rfl rfl rfl rfl rfl rfl rfl rfl (by exact ovE (bin rfl rfl rfl) rfl), nR rfl rfl rfl rfl rfl (by exact ovE (pk rfl rfl rfl) rfl), trivial⟩) fun a w hS => ?_
            replace hS := hS.env2 (e' := [(0, .slice A5452 l_5451.length c5453), (3, .slice A5456 x5458.length c5457), (5, .int .i64 i5468), (6, .int .i64 k_5471), (79, .bool ((ishr .i64 (rd x5458 k_5471) (wr .u64 (w64 ((rd l_5451 k_5471) - (rd l_5451 i5468))))) == (rd x5458 i5468)))]) ⟨rfl, rfl, rfl, rfl, rfl, trivial⟩
            refine then_n ?_
            exact hJ5489 _ _ ⟨((ishr .i64 (rd x5458 k_5471) (wr .u64 (w64 ((rd l_5451 k_5471) - (rd l_5451 i5468))))) == (rd x5458 i5468)), hS.to [0] (by kernel_rfl) ⟨rfl, rfl, rfl, rfl, rfl, trivial⟩, hM⟩
           ·refine draw_begin (vals := [some (.int .i64 i5468), some (.int .i64 k_5471), some (.bool true), some (.bool true), some (.slice A5452 l_5451.length c5453), some (.int .i64 i5468), some (slp A5452 (Int.toNat i5468 * 1)), some (.int .i64 (rd l_5451 i5468)), some (.bool true), some (.bool true), some (.bool true), some (.slice A5452 l_5451.length c5453), some (.int .i64 k_5471), some (slp A5452 (Int.toNat k_5471 * 1)), some (.int .i64 (rd l_5451 k_5471)), some (.slice A5452 l_5451.length c5453), some (.int .i64 i5468), some (slp A5452 (Int.toNat i5468 * 1)), some (.int .i64 (rd l_5451 i5468)), some (.bool false), some (.bool false), some (.bool false), some (undef), some (undef), some (undef), some (undef), some (undef), some (undef), some (undef), some (undef), some (undef), some (undef), some (undef), some (undef), some (undef), some (undef), some (undef), some (undef), some (undef), some (undef), some (undef), some (undef), some (.bool false)]) hS mixed rfl ?_
            intro l w ho hcl hA hst
            refine phqE hA hst ho hcl nmust [0, 1, 2, 3, 4, 5, 6, 7, 8, 9, 10, 11, 12, 13, 14, 15, 16, 17, 18, 19, 20, 21, 22, 23, 24, 25, 26, 27, 28, 29, 30, 31, 32, 33, 34, 35, 36, 37, 38, 39, 40, 41, 42] rfl rfl rfl (by exact ⟨nR rfl rfl rfl rfl rfl (by exact ovE (mv rfl) rfl), nR rfl rfl rfl rfl rfl (by exact ovE (mv rfl) rfl), nR rfl rfl rfl rfl rfl (by exact ovE (bin rfl rfl rfl) (congrArg Value.bool hb5475)), nR rfl rfl rfl rfl rfl (by exact ovE (mv rfl) rfl), nW rfl rfl rfl rfl rfl rfl rfl rfl (by exact ovE (mv rfl) rfl), nW rfl rfl rfl rfl rfl rfl rfl rfl (by exact ovE (mv rfl) rfl), nW rfl rfl rfl rfl rfl rfl rfl rfl (by exact ovE (ixV rfl rfl Try.runUnderlying22 Try.sizeOf3 hr5454.wk (fun _ => rfl) rfl hk5477) rfl), nW rfl rfl rfl rfl rfl rfl rfl rfl (by exact ovE (ldV0 rfl hr5454.wk (fun _ => rfl) hk5477 rfl Try.isAgg3) rfl), nW rfl rfl rfl rfl rfl rfl rfl rfl (by exact ovE (bin rfl rfl rfl) (congrArg Value.bool hb5478)), nR rfl rfl rfl rfl rfl (by exact ovE (pk rfl rfl rfl) rfl), nR rfl rfl rfl rfl rfl (by exact ovE (mv rfl) rfl), nW rfl rfl rfl rfl rfl rfl rfl rfl (by exact ovE (mv rfl) rfl), nW rfl rfl rfl rfl rfl rfl rfl rfl (by exact ovE (mv rfl) rfl), nW rfl rfl rfl rfl rfl rfl rfl rfl (by exact ovE (ixV rfl rfl Try.runUnderlying22 Try.sizeOf3 hr5454.wk (fun _ => rfl) rfl hk5480) rfl), nW rfl rfl rfl rfl rfl rfl rfl rfl (by exact ovE (ldV0 rfl hr5454.wk (fun _ => rfl) hk5480 rfl Try.isAgg3) rfl), nW rfl rfl rfl rfl rfl rfl rfl rfl (by exact ovE (mv rfl) rfl), nW rfl rfl rfl rfl rfl rfl rfl rfl (by exact ovE (mv rfl) rfl), nW rfl rfl rfl rfl rfl rfl rfl rfl (by exact ovE (ixV rfl rfl Try.runUnderlying22 Try.sizeOf3 hr5454.wk (fun _ => rfl) rfl hk5477) rfl), nW rfl rfl rfl rfl rfl rfl rfl rfl (by exact ovE (ldV0 rfl hr5454.wk (fun _ => rfl) hk5477 rfl Try.isAgg3) rfl), nW rfl rfl rfl rfl rfl rfl rfl rfl (by exact ovE (bin rfl rfl rfl) (congrArg Value.bool hb5481)), nR rfl rfl rfl rfl rfl (by exact ovE (pk rfl rfl rfl) rfl), nR rfl rfl rfl rfl rfl (by exact ovE (mv rfl) rfl), nS rfl rfl rfl rfl rfl rfl rfl rfl rfl, nS rfl rfl rfl rfl rfl rfl rfl rfl rfl, nS rfl rfl rfl rfl rfl rfl rfl rfl rfl, nS rfl rfl rfl rfl rfl rfl rfl rfl rfl, nS rfl rfl rfl rfl rfl rfl rfl rfl rfl, nS rfl rfl rfl rfl rfl rfl rfl rfl rfl, nS rfl rfl rfl rfl rfl rfl rfl rfl rfl, nS rfl rfl rfl rfl rfl rfl rfl rfl rfl, nS rfl rfl rfl rfl rfl rfl rfl rfl rfl, nS rfl rfl rfl rfl rfl rfl rfl rfl rfl, nS rfl rfl rfl rfl rfl rfl rfl rfl rfl, nS rfl rfl rfl rfl rfl rfl rfl rfl rfl, nS rfl rfl rfl rfl rfl rfl rfl rfl rfl, nS rfl rfl rfl rfl rfl rfl rfl rfl rfl, nS rfl rfl rfl rfl rfl rfl rfl rfl rfl, nS rfl rfl rfl rfl rfl rfl rfl rfl rfl, nS rfl rfl rfl rfl rfl rfl rfl rfl rfl, nS rfl rfl rfl rfl rfl rfl rfl rfl rfl, nS rfl rfl rfl rfl rfl rfl rfl rfl rfl, nS rfl rfl rfl rfl rfl rfl rfl rfl rfl, nR rfl rfl rfl rfl rfl (by exact ovE (pk rfl rfl rfl) rfl), trivial⟩) fun a w hS => ?_
            replace hS := hS.env2 (e' := [(0, .slice A5452 l_5451.length c5453), (3, .slice A5456 x5458.length c5457), (5, .int .i64 i5468), (6, .int .i64 k_5471), (79, .bool false)]) ⟨rfl, rfl, rfl, rfl, rfl, trivial⟩
            refine then_n ?_
            exact hJ5489 _ _ ⟨false, hS.to [0] (by kernel_rfl) ⟨rfl, rfl, rfl, rfl, rfl, trivial⟩, hM⟩
          ·refine draw_begin (vals := [some (.int .i64 i5468), some (.int .i64 k_5471), some (.bool true), some (.bool true), some (.slice A5452 l_5451.length c5453), some (.int .i64 i5468), some (slp A5452 (Int.toNat i5468 * 1)), some (.int .i64 (rd l_5451 i5468)), some (.bool false), some (.bool false), some (.bool false), some (undef), some (undef), some (undef), some (undef), some (undef), some (undef), some (undef), some (undef), some (undef), some (.bool false), some (.bool false), some (undef), some (undef), some (undef), some (undef), some (undef), some (undef), some (undef), some (undef), some (undef), some (undef), some (undef), some (undef), some (undef), some (undef), some (undef), some (undef), some (undef), some (undef), some (undef), some (undef), some (.bool false)]) hS mixed rfl ?_
           intro l w ho hcl hA hst
           refine phqE hA hst ho hcl nmust [0, 1, 2, 3, 4, 5, 6, 7, 8, 9, 10, 11, 12, 13, 14, 15, 16, 17, 18, 19, 20, 21, 22, 23, 24, 25, 26, 27, 28, 29, 30, 31, 32, 33, 34, 35, 36, 37, 38, 39, 40, 41, 42] rfl rfl rfl (by exact ⟨nR rfl rfl rfl rfl rfl (by exact ovE (mv rfl) rfl), nR rfl rfl rfl rfl rfl (by exact ovE (mv rfl) rfl), nR rfl rfl rfl rfl rfl (by exact ovE (bin rfl rfl rfl) (congrArg Value.bool hb5475)), nR rfl rfl rfl rfl rfl (by exact ovE (mv rfl) rfl), nW rfl rfl rfl rfl rfl rfl rfl rfl (by exact ovE (mv rfl) rfl), nW rfl rfl rfl rfl rfl rfl rfl rfl (by exact ovE (mv rfl) rfl), nW rfl rfl rfl rfl rfl rfl rfl rfl (by exact ovE (ixV rfl rfl Try.runUnderlying22 Try.sizeOf3 hr5454.wk (fun _ => rfl) rfl hk5477) rfl), nW rfl rfl rfl rfl rfl rfl rfl rfl (by exact ovE (ldV0 rfl hr5454.wk (fun _ => rfl) hk5477 rfl Try.isAgg3) rfl), nW rfl rfl rfl rfl rfl rfl rfl rfl (by exact ovE (bin rfl rfl rfl) (congrArg Value.bool hb5478)), nR rfl rfl rfl rfl rfl (by exact ovE (pk rfl rfl rfl) rfl), nR rfl rfl rfl rfl rfl (by exact ovE (mv rfl) rfl), nS rfl rfl rfl rfl rfl rfl rfl rfl rfl, nS rfl rfl rfl rfl rfl rfl rfl rfl rfl, nS rfl rfl rfl rfl rfl rfl rfl rfl rfl, nS rfl rfl rfl rfl rfl rfl rfl rfl rfl, nS rfl rfl rfl rfl rfl rfl rfl rfl rfl, nS rfl rfl rfl rfl rfl rfl rfl rfl rfl, nS rfl rfl rfl rfl rfl rfl rfl rfl rfl, nS rfl rfl rfl rfl rfl rfl rfl rfl rfl, nS rfl rfl rfl rfl rfl rfl rfl rfl rfl, nR rfl rfl rfl rfl rfl (by exact ovE (pk rfl rfl rfl) rfl), nR rfl rfl rfl rfl rfl (by exact ovE (mv rfl) rfl), nS rfl rfl rfl rfl rfl rfl rfl rfl rfl, nS rfl rfl rfl rfl rfl rfl rfl rfl rfl, nS rfl rfl rfl rfl rfl rfl rfl rfl rfl, nS rfl rfl rfl rfl rfl rfl rfl rfl rfl, nS rfl rfl rfl rfl rfl rfl rfl rfl rfl, nS rfl rfl rfl rfl rfl rfl rfl rfl rfl, nS rfl rfl rfl rfl rfl rfl rfl rfl rfl, nS rfl rfl rfl rfl rfl rfl rfl rfl rfl, nS rfl rfl rfl rfl rfl rfl rfl rfl rfl, nS rfl rfl rfl rfl rfl rfl rfl rfl rfl, nS rfl rfl rfl rfl rfl rfl rfl rfl rfl, nS rfl rfl rfl rfl rfl rfl rfl rfl rfl, nS rfl rfl rfl rfl rfl rfl rfl rfl rfl, nS rfl rfl rfl rfl rfl rfl rfl rfl rfl, nS rfl rfl rfl rfl rfl rfl rfl rfl rfl, nS rfl rfl rfl rfl rfl rfl rfl rfl rfl, nS rfl rfl rfl rfl rfl rfl rfl rfl rfl, nS rfl rfl rfl rfl rfl rfl rfl rfl rfl, nS rfl rfl rfl rfl rfl rfl rfl rfl rfl, nS rfl rfl rfl rfl rfl rfl rfl rfl rfl, nR rfl rfl rfl rfl rfl (by exact ovE (pk rfl rfl rfl) rfl), trivial⟩) fun a w hS => ?_
           replace hS := hS.env2 (e' := [(0, .slice A5452 l_5451.length c5453), (3, .slice A5456 x5458.length c5457), (5, .int .i64 i5468), (6, .int .i64 k_5471), (79, .bool false)]) ⟨rfl, rfl, rfl, rfl, rfl, trivial⟩
           refine then_n ?_
           exact hJ5489 _ _ ⟨false, hS.to [0] (by kernel_rfl) ⟨rfl, rfl, rfl, rfl, rfl, trivial⟩, hM⟩
         ·refine draw_begin (vals := [some (.int .i64 i5468), some (.int .i64 k_5471), some (.bool false), some (.bool false), some (undef), some (undef), some (undef), some (undef), some (undef), some (.bool false), some (.bool false), some (undef), some (undef), some (undef), some (undef), some (undef), some (undef), some (undef), some (undef), some (undef), some (.bool false), some (.bool false), some (undef), some (undef), some (undef), some (undef), some (undef), some (undef), some (undef), some (undef), some (undef), some (undef), some (undef), some (undef), some (undef), some (undef), some (undef), some (undef), some (undef), some (undef), some (undef), some (undef), some (.bool false)]) hS mixed rfl ?_
          intro l w ho hcl hA hst
          refine phqE hA hst ho hcl nmust [0, 1, 2, 3, 4, 5, 6, 7, 8, 9, 10, 11, 12, 13, 14, 15, 16, 17, 18, 19, 20, 21, 22, 23, 24, 25, 26, 27, 28, 29, 30, 31, 32, 33, 34, 35, 36, 37, 38, 39, 40, 41, 42] rfl rfl rfl (by exact ⟨nR rfl rfl rfl rfl rfl (by exact ovE (mv rfl) rfl), nR rfl rfl rfl rfl rfl (by exact ovE (mv rfl) rfl), nR rfl rfl rfl rfl rfl (by exact ovE (bin rfl rfl rfl) (congrArg Value.bool hb5475)), nR rfl rfl rfl rfl rfl (by exact ovE (mv rfl) rfl), nS rfl rfl rfl rfl rfl rfl rfl rfl rfl, nS rfl rfl rfl rfl rfl rfl rfl rfl rfl, nS rfl rfl rfl rfl rfl rfl rfl rfl rfl, nS rfl rfl rfl rfl rfl rfl rfl rfl rfl, nS rfl rfl rfl rfl rfl rfl rfl rfl rfl, nR rfl rfl rfl rfl rfl (by exact ovE (pk rfl rfl rfl) rfl), nR rfl rfl rfl rfl rfl (by exact ovE (mv rfl) rfl), nS rfl rfl rfl rfl rfl rfl rfl rfl rfl, nS rfl rfl rfl rfl rfl rfl rfl rfl rfl, nS rfl rfl rfl rfl rfl rfl rfl rfl rfl, nS rfl rfl rfl rfl rfl rfl rfl rfl rfl, nS rfl rfl rfl rfl rfl rfl rfl rfl rfl, nS rfl rfl rfl rfl rfl rfl rfl rfl rfl, nS rfl rfl rfl rfl rfl rfl rfl rfl rfl, nS rfl rfl rfl rfl rfl rfl rfl rfl rfl, nS rfl rfl rfl rfl rfl rfl rfl rfl rfl, nR rfl rfl rfl rfl rfl (by exact ovE (pk rfl rfl rfl) rfl), nR rfl rfl rfl rfl rfl (by exact ovE (mv rfl) rfl), nS rfl rfl rfl rfl rfl rfl rfl rfl rfl, nS rfl rfl rfl rfl rfl rfl rfl rfl rfl, nS rfl rfl rfl rfl rfl rfl rfl rfl rfl, nS rfl rfl rfl rfl rfl rfl rfl rfl rfl, nS rfl rfl rfl rfl rfl rfl rfl rfl rfl, nS rfl rfl rfl rfl rfl rfl rfl rfl rfl, nS rfl rfl rfl rfl rfl rfl rfl rfl rfl, nS rfl rfl rfl rfl rfl rfl rfl rfl rfl, nS rfl rfl rfl rfl rfl rfl rfl rfl rfl, nS rfl rfl rfl rfl rfl rfl rfl rfl rfl, nS rfl rfl rfl rfl rfl rfl rfl rfl rfl, nS rfl rfl rfl rfl rfl rfl rfl rfl rfl, nS rfl rfl rfl rfl rfl rfl rfl rfl rfl, nS rfl rfl rfl rfl rfl rfl rfl rfl rfl, nS rfl rfl rfl rfl rfl rfl rfl rfl rfl, nS rfl rfl rfl rfl rfl rfl rfl rfl rfl, nS rfl rfl rfl rfl rfl rfl rfl rfl rfl, nS rfl rfl rfl rfl rfl rfl rfl rfl rfl, nS rfl rfl rfl rfl rfl rfl rfl rfl rfl, nS rfl rfl rfl rfl rfl rfl rfl rfl rfl, nR rfl rfl rfl rfl rfl (by exact ovE (pk rfl rfl rfl) rfl), trivial⟩) fun a w hS => ?_
          replace hS := hS.env2 (e' := [(0, .slice A5452 l_5451.length c5453), (3, .slice A5456 x5458.length c5457), (5, .int .i64 i5468), (6, .int .i64 k_5471), (79, .bool false)]) ⟨rfl, rfl, rfl, rfl, rfl, trivial⟩
          refine then_n ?_
          exact hJ5489 _ _ ⟨false, hS.to [0] (by kernel_rfl) ⟨rfl, rfl, rfl, rfl, rfl, trivial⟩, hM⟩
        ·intro a w hI
         obtain ⟨v5488, hS, hM⟩ := hI
         rw [mortiselaw06_HuffApart.j4] at hM
         refine s_cond hS rfl hM (fun hb5490 hM => ?_) (fun hb5490 hM => ?_)
         ·refine wp_seq ?_
          refine wp_region_list <| st1 hS (asg rfl) rfl fun a w hS => wpList_nil <| then_n <| wp_ret <| blk_ret (then_ret (then_ret (blk_ret (blk_ret (then_ret (then_ret (blk_ret (then_ret ?_))))))))
          exact s_ret (rs := [2]) hS rfl rfl (hret false w (wp_ok hM) (hS.st.pick [] (by kernel_rfl)))
         ·refine wp_skip ?_
          refine blk_n (then_n ?_)
          refine wp_region_list <| st1 hS (mv rfl) rfl fun a w hS => st1 hS (bin rfl rfl rfl) rfl fun a w hS => st1x (v := Value.int .i64) (x0 := (w64 (k_5471 + (1 : Int)))) hS (asg rfl) rfl fun k_5491 a w hz hS => ?_
          have hM := lt_to hz hM; clear hz
          refine wpList_nil <| then_n ?_
          exact hJ5492 _ _ ⟨k_5491, hS.to [0] (by kernel_rfl) ⟨rfl, rfl, rfl, rfl, trivial⟩, hM⟩
       ·refine wp_exit ?_
        refine then_ex (then_ex (blk_same (blk_n (then_n ?_))))
        refine wp_region_list <| st1 hS (mv rfl) rfl fun a w hS => st1 hS (bin rfl rfl rfl) rfl fun a w hS => st1x (v := Value.int .i64) (x0 := (w64 (i5468 + (1 : Int)))) hS (asg rfl) rfl fun i5474 a w hz hS => ?_
        have hM := lt_to hz hM; clear hz
        refine wpList_nil <| then_n ?_
        exact hJ5493 _ _ ⟨i5474, hS.to [0] (by kernel_rfl) ⟨rfl, rfl, rfl, trivial⟩, hM⟩
     ·refine wp_exit ?_
      refine then_ex (then_ex (blk_same (then_n ?_)))
      exact hJ5494 _ _ ⟨hS.to [] (by kernel_rfl) trivial, hM⟩
   ·intro a w hI
    obtain ⟨hS, hM⟩ := hI
    rw [mortiselaw06_HuffApart.j5] at hM
    refine wp_seq <| wp_region_list <| s_call hS rfl Try.call14 (mortiselaw06_live_c hG K  (hS.st.part 0 [] (by kernel_rfl)) (wp_bind hM) (fun x5495 w hM  hst => s_back hS.ev hst.appF rfl fun hS => ?_) (fun v w hk hst => s_pan (then_pan (⟨hS.ev.defs, hpan _ _ hk hst.appF.frame⟩))))
    replace hS : Ss _ _ _ H [] F _ _ := hS
    refine st1 hS (asg rfl) rfl fun a w hS => wpList_nil <| then_n <| wp_ret ?_
    exact s_ret (rs := [2]) hS rfl rfl (hret x5495 w (wp_ok hM) (hS.st.pick [] (by kernel_rfl)))
end Go.TryS
