/- Printed by a program of mine: each Go function answers what its model answers; conditions: what each theorem asks of memory. -/
import Derived.Test.YtkphnjbmheoifaaP2xakdob
set_option linter.unusedVariables false
set_option linter.unusedSimpArgs false
namespace Go.TryS
open Go Go.Sl Go.Mo Go.Proofs
theorem slices_rotateCmpFunc_huff_packet__b6e1_b35e_c {H : Imm} {F : List Frag} {w : World} {R : Ending → World → Prop} {kr : (List T_huff_packet) → Prop} {kp : Value → Prop} (hG : Gl H) (K : Nat) (data3403 : List T_huff_packet) (a_3411 : Int) (m3412 : Int) (b_3413 : Int) (p3404 : Frag) (A3405 : Option Addr) (c3406 : Nat) (rw3407 : List (Row 2)) (f3409 : Frag) (hr3408 : RelL (R_huff_packet p3404) data3403 rw3407) (hV3410 : Vec 70 (Row.v (sz := 2)) 2 A3405 rw3407 c3406 f3409)
    (hS : St w H [p3404, f3409] F) (hm : (slices_rotateCmpFunc_huff_packet__b6e1_b35e.m K data3403 a_3411 m3412 b_3413).wp kr kp)
    (hret : ∀ (rw3607 : List (Row 2)) (data3608 : (List T_huff_packet)) (f3609 : Frag) (w : World), kr data3608 → (Vec 70 (Row.v (sz := 2)) 2 A3405 rw3607 c3406 f3609) → (RelL (R_huff_packet p3404) data3608 rw3607) → (rw3607.length = rw3407.length) → St w H [p3404, f3609] F → R (.returned (.tuple ⟨[]⟩)) w) :
    Calls Try.prog 47 ⟨[.slice A3405 rw3407.length c3406, .int .i64 a_3411, .int .i64 m3412, .int .i64 b_3413, fnv 41 [] []]⟩ w R := by
  refine enter Try.func47 rfl Try.ntmps47 rfl hS fun a w hS => ?_
  have hM := hm; clear hm
  rw [slices_rotateCmpFunc_huff_packet__b6e1_b35e.m] at hM
  have hs3414 : ∀ q ∈ p3404, q ∈ p3404 := fun _ h => h
  have hz3415 : rw3407.length = rw3407.length := rfl
  refine wp_seq ?_
  refine wp_region_list ?_
  refine st1 hS (mv rfl) rfl fun a w hS => ?_
  refine st1 hS (mv rfl) rfl fun a w hS => ?_
  refine st1 hS (bin rfl rfl rfl) rfl fun a w hS => ?_
  refine st1x (v := Value.int .i64) hS (asg rfl) rfl fun i3416 a w hz hS => ?_
  have hM := lt_to hz hM; clear hz
  refine wpList_nil ?_
  refine then_n ?_
  refine wp_seq ?_
  refine wp_region_list ?_
  refine st1 hS (mv rfl) rfl fun a w hS => ?_
  refine st1 hS (mv rfl) rfl fun a w hS => ?_
  refine st1 hS (bin rfl rfl rfl) rfl fun a w hS => ?_
  refine st1x (v := Value.int .i64) hS (asg rfl) rfl fun j3417 a w hz hS => ?_
  have hM := lt_to hz hM; clear hz
  refine wpList_nil ?_
  refine then_n ?_
  refine seq_joinJ (fun a w => ∃ (rw3592 : List (Row 2)) (data3593 : (List T_huff_packet)) (f3594 : Frag) (i3598 : Int), Ss 58 [] [(0, .slice A3405 rw3592.length c3406), (2, .int .i64 m3412), (4, fnv 41 [] []), (10, .int .i64 i3598)] H [p3404, f3594] F a w ∧ (Vec 70 (Row.v (sz := 2)) 2 A3405 rw3592 c3406 f3594) ∧ (RelL (R_huff_packet p3404) data3593 rw3592) ∧ (rw3592.length = rw3407.length) ∧ (slices_rotateCmpFunc_huff_packet__b6e1_b35e.j2 K m3412 data3593 i3598).wp kr kp) (fun J3599 hJ3599 => ?_) ?_
  · refine wp_block ?_
    refine s_loopJ (fun k3572 a w => ∃ (rw3564 : List (Row 2)) (data3565 : (List T_huff_packet)) (f3566 : Frag) (i3570 : Int) (j3571 : Int), Ss 58 [] [(0, .slice A3405 rw3564.length c3406), (2, .int .i64 m3412), (4, fnv 41 [] []), (10, .int .i64 i3570), (11, .int .i64 j3571)] H [p3404, f3566] F a w ∧ (Vec 70 (Row.v (sz := 2)) 2 A3405 rw3564 c3406 f3566) ∧ (RelL (R_huff_packet p3404) data3565 rw3564) ∧ (rw3564.length = rw3407.length) ∧ (slices_rotateCmpFunc_huff_packet__b6e1_b35e.l1 K m3412 k3572 data3565 i3570 j3571).wp kr kp) K ?_ ?_ ?_
    · exact ⟨rw3407, data3403, f3409, i3416, j3417, hS.to [0, 1] (by kernel_rfl) ⟨rfl, rfl, rfl, rfl, rfl, trivial⟩, hV3410, hr3408, hz3415, hM⟩
    · intro a w hI; obtain ⟨_, _, _, _, _, _, _, _, _, hM⟩ := hI; exact hM
    · intro k3572 a w hI J3591 hJ3591
      obtain ⟨rw3564, data3565, f3566, i3570, j3571, hS, hV3567, hr3568, hz3569, hM⟩ := hI
      rw [slices_rotateCmpFunc_huff_packet__b6e1_b35e.l1] at hM
      refine wp_seq ?_
      refine wp_seq ?_
      refine wp_region_list ?_
      refine st1 hS (mv rfl) rfl fun a w hS => ?_
      refine st1 hS (mv rfl) rfl fun a w hS => ?_
      refine st1 hS (bin rfl rfl rfl) rfl fun a w hS => ?_
      refine wpList_nil ?_
      refine then_n ?_
      refine s_cond hS rfl hM (fun hb3573 hM => ?_) (fun hb3573 hM => ?_)
      · refine wp_skip ?_
        refine then_n ?_
        refine wp_block ?_
        refine wp_seq ?_
        refine wp_region_list ?_
        refine st1 hS (mv rfl) rfl fun a w hS => ?_
        refine st1 hS (mv rfl) rfl fun a w hS => ?_
        refine st1 hS (bin rfl rfl rfl) rfl fun a w hS => ?_
        refine wpList_nil ?_
        refine then_n ?_
        refine s_cond hS rfl hM (fun hb3574 hM => ?_) (fun hb3574 hM => ?_)
        · refine wp_seq ?_
          refine wp_region_list ?_
          refine st1 hS (mv rfl) rfl fun a w hS => ?_
          refine st1 hS (mv rfl) rfl fun a w hS => ?_
          refine st1 hS (mv rfl) rfl fun a w hS => ?_
          refine st1 hS (bin rfl rfl rfl) rfl fun a w hS => ?_
          refine st1 hS (mv rfl) rfl fun a w hS => ?_
          refine st1 hS (mv rfl) rfl fun a w hS => ?_
          refine st1 hS (mv rfl) rfl fun a w hS => ?_
          refine s_call hS rfl Try.call48 (slices_swapRangeCmpFunc_huff_packet__b6e1_b35e_c hG K data3565 (w64 (m3412 - i3570)) m3412 j3571 p3404 A3405 c3406 rw3564 f3566 hr3568 hV3567 (hS.st.part 2 [0, 1] (by kernel_rfl)) (wp_bind hM) (fun rw3575 data3576 f3577 w hM h3578 h3579 h3580 hst => s_back hS.ev hst.appF rfl fun hS => ?_))
          replace hS : Ss _ _ _ H [p3404, f3577] F _ _ := hS
          have hz3581 := Eq.trans h3580 hz3569
          replace hS := hS.re 0 (u := .slice A3405 rw3564.length c3406) (v := .slice A3405 rw3575.length c3406) rfl (by rw [h3580])
          replace hS := hS.re 24 (u := .slice A3405 rw3564.length c3406) (v := .slice A3405 rw3575.length c3406) rfl (by rw [h3580])
          refine wpList_nil ?_
          refine then_n ?_
          refine wp_region_list ?_
          refine st1 hS (mv rfl) rfl fun a w hS => ?_
          refine st1 hS (mv rfl) rfl fun a w hS => ?_
          refine st1 hS (bin rfl rfl rfl) rfl fun a w hS => ?_
          refine st1x (v := Value.int .i64) hS (asg rfl) rfl fun i3582 a w hz hS => ?_
          have hM := lt_to hz hM; clear hz
          refine wpList_nil ?_
          refine blk_n (then_n ?_)
          exact hJ3591 _ _ ⟨rw3575, data3576, f3577, i3582, j3571, hS.to [0, 1] (by kernel_rfl) ⟨rfl, rfl, rfl, rfl, rfl, trivial⟩, h3578, h3579, hz3581, hM⟩
        · refine wp_seq ?_
          refine wp_region_list ?_
          refine st1 hS (mv rfl) rfl fun a w hS => ?_
          refine st1 hS (mv rfl) rfl fun a w hS => ?_
          refine st1 hS (mv rfl) rfl fun a w hS => ?_
          refine st1 hS (bin rfl rfl rfl) rfl fun a w hS => ?_
          refine st1 hS (mv rfl) rfl fun a w hS => ?_
          refine st1 hS (mv rfl) rfl fun a w hS => ?_
          refine st1 hS (bin rfl rfl rfl) rfl fun a w hS => ?_
          refine st1 hS (mv rfl) rfl fun a w hS => ?_
          refine st1 hS (bin rfl rfl rfl) rfl fun a w hS => ?_
          refine st1 hS (mv rfl) rfl fun a w hS => ?_
          refine st1 hS (mv rfl) rfl fun a w hS => ?_
          refine s_call hS rfl Try.call48 (slices_swapRangeCmpFunc_huff_packet__b6e1_b35e_c hG K data3565 (w64 (m3412 - i3570)) (w64 ((w64 (m3412 + j3571)) - i3570)) i3570 p3404 A3405 c3406 rw3564 f3566 hr3568 hV3567 (hS.st.part 2 [0, 1] (by kernel_rfl)) (wp_bind hM) (fun rw3583 data3584 f3585 w hM h3586 h3587 h3588 hst => s_back hS.ev hst.appF rfl fun hS => ?_))
          replace hS : Ss _ _ _ H [p3404, f3585] F _ _ := hS
          have hz3589 := Eq.trans h3588 hz3569
          replace hS := hS.re 0 (u := .slice A3405 rw3564.length c3406) (v := .slice A3405 rw3583.length c3406) rfl (by rw [h3588])
          replace hS := hS.re 35 (u := .slice A3405 rw3564.length c3406) (v := .slice A3405 rw3583.length c3406) rfl (by rw [h3588])
          refine wpList_nil ?_
          refine then_n ?_
          refine wp_region_list ?_
          refine st1 hS (mv rfl) rfl fun a w hS => ?_
          refine st1 hS (mv rfl) rfl fun a w hS => ?_
          refine st1 hS (bin rfl rfl rfl) rfl fun a w hS => ?_
          refine st1x (v := Value.int .i64) hS (asg rfl) rfl fun j3590 a w hz hS => ?_
          have hM := lt_to hz hM; clear hz
          refine wpList_nil ?_
          refine blk_n (then_n ?_)
          exact hJ3591 _ _ ⟨rw3583, data3584, f3585, i3570, j3590, hS.to [0, 1] (by kernel_rfl) ⟨rfl, rfl, rfl, rfl, rfl, trivial⟩, h3586, h3587, hz3589, hM⟩
      · refine wp_exit ?_
        refine then_ex (then_ex (blk_same (then_n ?_)))
        exact hJ3599 _ _ ⟨rw3564, data3565, f3566, i3570, hS.to [0, 1] (by kernel_rfl) ⟨rfl, rfl, rfl, rfl, trivial⟩, hV3567, hr3568, hz3569, hM⟩
  · intro a w hI
    obtain ⟨rw3592, data3593, f3594, i3598, hS, hV3595, hr3596, hz3597, hM⟩ := hI
    rw [slices_rotateCmpFunc_huff_packet__b6e1_b35e.j2] at hM
    refine wp_region_list ?_
    refine st1 hS (mv rfl) rfl fun a w hS => ?_
    refine st1 hS (mv rfl) rfl fun a w hS => ?_
    refine st1 hS (mv rfl) rfl fun a w hS => ?_
    refine st1 hS (bin rfl rfl rfl) rfl fun a w hS => ?_
    refine st1 hS (mv rfl) rfl fun a w hS => ?_
    refine st1 hS (mv rfl) rfl fun a w hS => ?_
    refine st1 hS (mv rfl) rfl fun a w hS => ?_
    refine s_call hS rfl Try.call48 (slices_swapRangeCmpFunc_huff_packet__b6e1_b35e_c hG K data3593 (w64 (m3412 - i3598)) m3412 i3598 p3404 A3405 c3406 rw3592 f3594 hr3596 hV3595 (hS.st.part 2 [0, 1] (by kernel_rfl)) (wp_bind hM) (fun rw3600 data3601 f3602 w hM h3603 h3604 h3605 hst => s_back hS.ev hst.appF rfl fun hS => ?_))
    replace hS : Ss _ _ _ H [p3404, f3602] F _ _ := hS
    have hz3606 := Eq.trans h3605 hz3597
    replace hS := hS.re 0 (u := .slice A3405 rw3592.length c3406) (v := .slice A3405 rw3600.length c3406) rfl (by rw [h3605])
    replace hS := hS.re 50 (u := .slice A3405 rw3592.length c3406) (v := .slice A3405 rw3600.length c3406) rfl (by rw [h3605])
    refine wpList_nil ?_
    exact s_end (rs := []) hS rfl rfl (hret rw3600 data3601 f3602 w hM h3603 h3604 hz3606 (hS.st.pick [0, 1] (by kernel_rfl)))

theorem slices_symMergeCmpFunc_huff_packet__b6e1_b35e_cr (K : Nat) : ∀ (d : Nat) {H : Imm} {F : List Frag} {w : World} {R : Ending → World → Prop} {kr : (List T_huff_packet) → Prop} {kp : Value → Prop} (hG : Gl H) (data3635 : List T_huff_packet) (a_3643 : Int) (m3644 : Int) (b_3645 : Int) (p3636 : Frag) (A3637 : Option Addr) (c3638 : Nat) (rw3639 : List (Row 2)) (f3641 : Frag) (hr3640 : RelL (R_huff_packet p3636) data3635 rw3639) (hV3642 : Vec 70 (Row.v (sz := 2)) 2 A3637 rw3639 c3638 f3641)
    (hS : St w H [p3636, f3641] F) (hm : (slices_symMergeCmpFunc_huff_packet__b6e1_b35e.r K d data3635 a_3643 m3644 b_3645).wp kr kp)
    (hret : ∀ (rw3970 : List (Row 2)) (data3971 : (List T_huff_packet)) (f3972 : Frag) (w : World), kr data3971 → (Vec 70 (Row.v (sz := 2)) 2 A3637 rw3970 c3638 f3972) → (RelL (R_huff_packet p3636) data3971 rw3970) → (rw3970.length = rw3639.length) → St w H [p3636, f3972] F → R (.returned (.tuple ⟨[]⟩)) w),
    Calls Try.prog 44 ⟨[.slice A3637 rw3639.length c3638, .int .i64 a_3643, .int .i64 m3644, .int .i64 b_3645, fnv 41 [] []]⟩ w R := by
  intro d
  induction d with
  | zero => intro H F w R kr kp hG data3635 a_3643 m3644 b_3645 p3636 A3637 c3638 rw3639 f3641 hr3640 hV3642 hS hm hret; exact (show False from hm).elim
  | succ d ih =>
  intro H F w R kr kp hG data3635 a_3643 m3644 b_3645 p3636 A3637 c3638 rw3639 f3641 hr3640 hV3642 hS hm hret
  have hM := hm; clear hm
  rw [slices_symMergeCmpFunc_huff_packet__b6e1_b35e.r] at hM; rw [slices_symMergeCmpFunc_huff_packet__b6e1_b35e.b] at hM
  refine enter Try.func44 rfl Try.ntmps44 rfl hS fun a w hS => ?_
  have hs3646 : ∀ q ∈ p3636, q ∈ p3636 := fun _ h => h
  have hz3647 : rw3639.length = rw3639.length := rfl
  refine seq_joinJ (fun a w => Ss 220 [] [(0, .slice A3637 rw3639.length c3638), (1, .int .i64 a_3643), (2, .int .i64 m3644), (3, .int .i64 b_3645), (4, fnv 41 [] [])] H [p3636, f3641] F a w ∧ (slices_symMergeCmpFunc_huff_packet__b6e1_b35e.j4 K (slices_symMergeCmpFunc_huff_packet__b6e1_b35e.r K d) data3635 a_3643 m3644 b_3645).wp kr kp) (fun J3772 hJ3772 => ?_) ?_
  · refine wp_seq ?_
    refine wp_region_list ?_
    refine st1 hS (mv rfl) rfl fun a w hS => ?_
    refine st1 hS (mv rfl) rfl fun a w hS => ?_
    refine st1 hS (bin rfl rfl rfl) rfl fun a w hS => ?_
    refine st1 hS (bin rfl rfl rfl) rfl fun a w hS => ?_
    refine wpList_nil ?_
    refine then_n ?_
    refine s_cond hS rfl hM (fun hb3648 hM => ?_) (fun hb3648 hM => ?_)
    · refine wp_seq ?_
      refine wp_region_list ?_
      refine st1 hS (mv rfl) rfl fun a w hS => ?_
      refine st1 hS (asg rfl) rfl fun a w hS => ?_
      refine wpList_nil ?_
      refine then_n ?_
      refine wp_seq ?_
      refine wp_region_list ?_
      refine st1 hS (mv rfl) rfl fun a w hS => ?_
      refine st1 hS (asg rfl) rfl fun a w hS => ?_
      refine wpList_nil ?_
      refine then_n ?_
      refine seq_joinJ (fun a w => ∃ (i3672 : Int), Ss 220 [] [(0, .slice A3637 rw3639.length c3638), (1, .int .i64 a_3643), (10, .int .i64 i3672)] H [p3636, f3641] F a w ∧ (slices_symMergeCmpFunc_huff_packet__b6e1_b35e.j2 K (slices_symMergeCmpFunc_huff_packet__b6e1_b35e.r K d) data3635 a_3643 i3672).wp kr kp) (fun J3673 hJ3673 => ?_) ?_
      · refine wp_block ?_
        refine s_loopJ (fun k3651 a w => ∃ (i3649 : Int) (j3650 : Int), Ss 220 [] [(0, .slice A3637 rw3639.length c3638), (1, .int .i64 a_3643), (4, fnv 41 [] []), (10, .int .i64 i3649), (11, .int .i64 j3650)] H [p3636, f3641] F a w ∧ (slices_symMergeCmpFunc_huff_packet__b6e1_b35e.l1 K (slices_symMergeCmpFunc_huff_packet__b6e1_b35e.r K d) data3635 a_3643 k3651 i3649 j3650).wp kr kp) K ?_ ?_ ?_
        · exact ⟨m3644, b_3645, hS.to [0, 1] (by kernel_rfl) ⟨rfl, rfl, rfl, rfl, rfl, trivial⟩, hM⟩
        · intro a w hI; obtain ⟨_, _, _, hM⟩ := hI; exact hM
        · intro k3651 a w hI J3671 hJ3671
          obtain ⟨i3649, j3650, hS, hM⟩ := hI
          rw [slices_symMergeCmpFunc_huff_packet__b6e1_b35e.l1] at hM
          refine wp_seq ?_
          refine wp_seq ?_
          refine wp_region_list ?_
          refine st1 hS (mv rfl) rfl fun a w hS => ?_
          refine st1 hS (mv rfl) rfl fun a w hS => ?_
          refine st1 hS (bin rfl rfl rfl) rfl fun a w hS => ?_
          refine wpList_nil ?_
          refine then_n ?_
          refine s_cond hS rfl hM (fun hb3652 hM => ?_) (fun hb3652 hM => ?_)
          · refine wp_skip ?_
            refine then_n ?_
            refine wp_block ?_
            refine wp_seq ?_
            refine wp_region_list ?_
            refine st1 hS (mv rfl) rfl fun a w hS => ?_
            refine st1 hS (mv rfl) rfl fun a w hS => ?_
            refine st1 hS (bin rfl rfl rfl) rfl fun a w hS => ?_
            refine st1 hS (cvi rfl Try.runUnderlying3 Try.runUnderlying46) rfl fun a w hS => ?_
            refine st1 hS (shr rfl rfl rfl) rfl fun a w hS => ?_
            refine st1 hS (cvi rfl Try.runUnderlying46 Try.runUnderlying3) rfl fun a w hS => ?_
            refine st1x (v := Value.int .i64) hS (asg rfl) rfl fun h3653 a w hz hS => ?_
            have hM := lt_to hz hM; clear hz
            refine wpList_nil ?_
            refine then_n ?_
            refine wp_seq ?_
            obtain ⟨hk3655, hM⟩ := wp_chk hM
            obtain ⟨A3656, c3657, hw3660, hp3658, hc3659⟩ := hr3640.get hk3655
            obtain ⟨hk3662, hM⟩ := wp_chk hM
            obtain ⟨A3663, c3664, hw3667, hp3665, hc3666⟩ := hr3640.get hk3662
            refine draw_begin (vals := [some (fnv 41 [] []), some (.slice A3637 rw3639.length c3638), some (.int .i64 h3653), some (slp A3637 (Int.toNat h3653 * 2)), some (.agg ⟨[.int .i64 ((rd data3635 h3653).often_), .slice A3656 ((rd data3635 h3653).symbols_).length c3657]⟩), some (.slice A3637 rw3639.length c3638), some (.int .i64 a_3643), some (slp A3637 (Int.toNat a_3643 * 2)), some (.agg ⟨[.int .i64 ((rd data3635 a_3643).often_), .slice A3663 ((rd data3635 a_3643).symbols_).length c3664]⟩), none, none]) hS mixed rfl ?_
            intro l w ho hcl hA hst
            refine phase' (vals := [some (fnv 41 [] []), some (.slice A3637 rw3639.length c3638), some (.int .i64 h3653), some (slp A3637 (Int.toNat h3653 * 2)), some (.agg ⟨[.int .i64 ((rd data3635 h3653).often_), .slice A3656 ((rd data3635 h3653).symbols_).length c3657]⟩), some (.slice A3637 rw3639.length c3638), some (.int .i64 a_3643), some (slp A3637 (Int.toNat a_3643 * 2)), some (.agg ⟨[.int .i64 ((rd data3635 a_3643).often_), .slice A3663 ((rd data3635 a_3643).symbols_).length c3664]⟩), none, none]) 9 [] [0, 1, 2, 3, 4, 5, 6, 7, 8] rfl rfl rfl rfl (by exact ⟨nR rfl rfl rfl rfl rfl (by exact ovE (mv rfl) rfl), nR rfl rfl rfl rfl rfl (by exact ovE (mv rfl) rfl), nR rfl rfl rfl rfl rfl (by exact ovE (mv rfl) rfl), nR rfl rfl rfl rfl rfl (by exact ovE (ixV rfl rfl Try.runUnderlying68 Try.sizeOf70 (hV3642.rd (i := 1) rfl) Row.len rfl (hr3640.inb hk3655)) rfl), nR rfl rfl rfl rfl rfl (by exact ovE (ovE (ldVA rfl (hV3642.rd (i := 1) rfl) Row.len (hr3640.inb hk3655) Try.isAgg70 Try.sizeOf70 rfl) (congrArg (fun l => Value.agg ⟨l⟩) hw3660)) rfl), nR rfl rfl rfl rfl rfl (by exact ovE (mv rfl) rfl), nR rfl rfl rfl rfl rfl (by exact ovE (mv rfl) rfl), nR rfl rfl rfl rfl rfl (by exact ovE (ixV rfl rfl Try.runUnderlying68 Try.sizeOf70 (hV3642.rd (i := 1) rfl) Row.len rfl (hr3640.inb hk3662)) rfl), nR rfl rfl rfl rfl rfl (by exact ovE (ovE (ldVA rfl (hV3642.rd (i := 1) rfl) Row.len (hr3640.inb hk3662) Try.isAgg70 Try.sizeOf70 rfl) (congrArg (fun l => Value.agg ⟨l⟩) hw3667)) rfl), trivial⟩) (fun D l a w ho hcl hav hpre hm hE hk hA hst => ?_) ho hcl (fun j hj => (List.not_mem_nil hj).elim) (fun m hm => (List.not_mem_nil hm).elim) List.not_mem_nil hA hst
            have hS := (Ss.mk hE hst).env2 (e' := [(40, fnv 41 [] []), (44, .agg ⟨[.int .i64 ((rd data3635 h3653).often_), .slice A3656 ((rd data3635 h3653).symbols_).length c3657]⟩), (48, .agg ⟨[.int .i64 ((rd data3635 a_3643).often_), .slice A3663 ((rd data3635 a_3643).symbols_).length c3664]⟩)]) ⟨rfl, rfl, rfl, trivial⟩
            refine op_of_nth rfl ?_
            refine s_callV hS rfl rfl Try.call41 (huff_merged_1_c hG K (T_huff_packet.mk ((rd data3635 h3653).often_) ((rd data3635 h3653).symbols_)) (T_huff_packet.mk ((rd data3635 a_3643).often_) ((rd data3635 a_3643).symbols_)) A3656 c3657 A3663 c3664 (hp3658.rdF (i := 0) rfl) hc3659 (hp3665.rdF (i := 0) rfl) hc3666 (hS.st.part 0 [0, 1] (by kernel_rfl)) (wp_bind hM) (fun x3668 w hM  hst => s_back hS.ev hst.appF rfl fun hS => ?_))
            replace hS : Ss _ _ _ H [p3636, f3641] F _ _ := hS
            refine wpList_nil (then_n ?_)
            have hcl2 := hcl.cons (k := 9) (nth_get rfl) hpre
            have hmust := must_cons (k := 9) hm (chain (k := 9) hcl (nth_get rfl) hpre [(0, 9), (4, 9), (8, 9), (3, 4), (7, 8), (1, 3), (2, 3), (5, 7), (6, 7)] [] rfl (fun _ h => absurd h List.not_mem_nil))
            replace hst := hS.st
            have hav2 := hav.cons (vals' := [some (fnv 41 [] []), some (.slice A3637 rw3639.length c3638), some (.int .i64 h3653), some (slp A3637 (Int.toNat h3653 * 2)), some (.agg ⟨[.int .i64 ((rd data3635 h3653).often_), .slice A3656 ((rd data3635 h3653).symbols_).length c3657]⟩), some (.slice A3637 rw3639.length c3638), some (.int .i64 a_3643), some (slp A3637 (Int.toNat a_3643 * 2)), some (.agg ⟨[.int .i64 ((rd data3635 a_3643).often_), .slice A3663 ((rd data3635 a_3643).symbols_).length c3664]⟩), some (.int .i64 x3668), some (.bool (decide (x3668 < (0 : Int))))]) (k := 9) ⟨rfl, rfl, rfl, rfl, rfl, rfl, rfl, rfl, rfl, trivial⟩ rfl
            replace hA := (hA.next hav (subV.get (l' := [some (fnv 41 [] []), some (.slice A3637 rw3639.length c3638), some (.int .i64 h3653), some (slp A3637 (Int.toNat h3653 * 2)), some (.agg ⟨[.int .i64 ((rd data3635 h3653).often_), .slice A3656 ((rd data3635 h3653).symbols_).length c3657]⟩), some (.slice A3637 rw3639.length c3638), some (.int .i64 a_3643), some (slp A3637 (Int.toNat a_3643 * 2)), some (.agg ⟨[.int .i64 ((rd data3635 a_3643).often_), .slice A3663 ((rd data3635 a_3643).symbols_).length c3664]⟩), some (.int .i64 x3668), some (.bool (decide (x3668 < (0 : Int))))]) ⟨rfl, rfl, rfl, rfl, rfl, rfl, rfl, rfl, rfl, trivial⟩)).step rfl (nth_get rfl) hk rfl rfl rfl
            clear hm hav
            replace hcl := hcl2
            refine phaseE (vals := [some (fnv 41 [] []), some (.slice A3637 rw3639.length c3638), some (.int .i64 h3653), some (slp A3637 (Int.toNat h3653 * 2)), some (.agg ⟨[.int .i64 ((rd data3635 h3653).often_), .slice A3656 ((rd data3635 h3653).symbols_).length c3657]⟩), some (.slice A3637 rw3639.length c3638), some (.int .i64 a_3643), some (slp A3637 (Int.toNat a_3643 * 2)), some (.agg ⟨[.int .i64 ((rd data3635 a_3643).often_), .slice A3663 ((rd data3635 a_3643).symbols_).length c3664]⟩), some (.int .i64 x3668), some (.bool (decide (x3668 < (0 : Int))))]) [9, 0, 4, 8, 3, 7, 1, 2, 5, 6] [10] rfl rfl rfl (by exact ⟨nR rfl rfl rfl rfl rfl (by exact ovE (bin rfl rfl rfl) rfl), trivial⟩) (fun a w hS => ?_) ho hcl hmust hA hst
            replace hS := hS.env2 (e' := [(0, .slice A3637 rw3639.length c3638), (1, .int .i64 a_3643), (4, fnv 41 [] []), (10, .int .i64 i3649), (11, .int .i64 j3650), (12, .int .i64 h3653), (50, .bool (decide (x3668 < (0 : Int))))]) ⟨rfl, rfl, rfl, rfl, rfl, rfl, rfl, trivial⟩
            refine then_n ?_
            refine s_cond hS rfl hM (fun hb3669 hM => ?_) (fun hb3669 hM => ?_)
            · refine wp_region_list ?_
              refine st1 hS (mv rfl) rfl fun a w hS => ?_
              refine st1 hS (bin rfl rfl rfl) rfl fun a w hS => ?_
              refine st1x (v := Value.int .i64) hS (asg rfl) rfl fun i3670 a w hz hS => ?_
              have hM := lt_to hz hM; clear hz
              refine wpList_nil ?_
              refine blk_n (then_n ?_)
              exact hJ3671 _ _ ⟨i3670, j3650, hS.to [0, 1] (by kernel_rfl) ⟨rfl, rfl, rfl, rfl, rfl, trivial⟩, hM⟩
            · refine wp_region_list ?_
              refine st1 hS (mv rfl) rfl fun a w hS => ?_
              refine st1 hS (asg rfl) rfl fun a w hS => ?_
              refine wpList_nil ?_
              refine blk_n (then_n ?_)
              exact hJ3671 _ _ ⟨i3649, h3653, hS.to [0, 1] (by kernel_rfl) ⟨rfl, rfl, rfl, rfl, rfl, trivial⟩, hM⟩
          · refine wp_exit ?_
            refine then_ex (then_ex (blk_same (then_n ?_)))
            exact hJ3673 _ _ ⟨i3649, hS.to [0, 1] (by kernel_rfl) ⟨rfl, rfl, rfl, trivial⟩, hM⟩
      · intro a w hI
        obtain ⟨i3672, hS, hM⟩ := hI
        rw [slices_symMergeCmpFunc_huff_packet__b6e1_b35e.j2] at hM
        refine wp_seq ?_
        refine wp_seq ?_
        refine wp_region_list ?_
        refine st1 hS (mv rfl) rfl fun a w hS => ?_
        refine st1 hS (asg rfl) rfl fun a w hS => ?_
        refine wpList_nil ?_
        refine then_n ?_
        refine wp_block ?_
        refine s_loopJ (fun k3730 a w => ∃ (rw3723 : List (Row 2)) (data3724 : (List T_huff_packet)) (f3725 : Frag) (k_3729 : Int), Ss 220 [] [(0, .slice A3637 rw3723.length c3638), (10, .int .i64 i3672), (13, .int .i64 k_3729)] H [p3636, f3725] F a w ∧ (Vec 70 (Row.v (sz := 2)) 2 A3637 rw3723 c3638 f3725) ∧ (RelL (R_huff_packet p3636) data3724 rw3723) ∧ (rw3723.length = rw3639.length) ∧ (slices_symMergeCmpFunc_huff_packet__b6e1_b35e.l3 K (slices_symMergeCmpFunc_huff_packet__b6e1_b35e.r K d) i3672 k3730 data3724 k_3729).wp kr kp) K ?_ ?_ ?_
        · exact ⟨rw3639, data3635, f3641, a_3643, hS.to [0, 1] (by kernel_rfl) ⟨rfl, rfl, rfl, trivial⟩, hV3642, hr3640, hz3647, hM⟩
        · intro a w hI; obtain ⟨_, _, _, _, _, _, _, _, hM⟩ := hI; exact hM
        · intro k3730 a w hI J3771 hJ3771
          obtain ⟨rw3723, data3724, f3725, k_3729, hS, hV3726, hr3727, hz3728, hM⟩ := hI
          rw [slices_symMergeCmpFunc_huff_packet__b6e1_b35e.l3] at hM
          refine wp_seq ?_
          refine wp_seq ?_
          refine wp_region_list ?_
          refine st1 hS (mv rfl) rfl fun a w hS => ?_
          refine st1 hS (mv rfl) rfl fun a w hS => ?_
          refine st1 hS (bin rfl rfl rfl) rfl fun a w hS => ?_
          refine st1 hS (bin rfl rfl rfl) rfl fun a w hS => ?_
          refine wpList_nil ?_
          refine then_n ?_
          refine s_cond hS rfl hM (fun hb3731 hM => ?_) (fun hb3731 hM => ?_)
          · refine wp_skip ?_
            refine then_n ?_
            refine wp_seq ?_
            refine wp_block ?_
            obtain ⟨hk3733, hM⟩ := wp_chk hM
            obtain ⟨A3734, c3735, hw3738, hp3736, hc3737⟩ := hr3727.get hk3733
            obtain ⟨hk3740, hM⟩ := wp_chk hM
            obtain ⟨A3741, c3742, hw3745, hp3743, hc3744⟩ := hr3727.get hk3740
            refine draw_begin (vals := [some (.slice A3637 rw3723.length c3638), some (.int .i64 k_3729), some (.slice A3637 rw3723.length c3638), some (.int .i64 k_3729), some (.int .i64 (w64 (k_3729 + (1 : Int)))), some (.slice A3637 rw3723.length c3638), some (.int .i64 k_3729), some (.int .i64 (w64 (k_3729 + (1 : Int)))), some (slp A3637 (Int.toNat (w64 (k_3729 + (1 : Int))) * 2)), some (.agg ⟨[.int .i64 ((rd data3724 (w64 (k_3729 + (1 : Int)))).often_), .slice A3734 ((rd data3724 (w64 (k_3729 + (1 : Int)))).symbols_).length c3735]⟩), some (.slice A3637 rw3723.length c3638), some (.int .i64 k_3729), some (slp A3637 (Int.toNat k_3729 * 2)), some (.agg ⟨[.int .i64 ((rd data3724 k_3729).often_), .slice A3741 ((rd data3724 k_3729).symbols_).length c3742]⟩), some (slp A3637 (Int.toNat k_3729 * 2)), none, none, none]) hS mixed rfl ?_
            intro l w ho hcl hA hst
            refine phase' (vals := [some (.slice A3637 rw3723.length c3638), some (.int .i64 k_3729), some (.slice A3637 rw3723.length c3638), some (.int .i64 k_3729), some (.int .i64 (w64 (k_3729 + (1 : Int)))), some (.slice A3637 rw3723.length c3638), some (.int .i64 k_3729), some (.int .i64 (w64 (k_3729 + (1 : Int)))), some (slp A3637 (Int.toNat (w64 (k_3729 + (1 : Int))) * 2)), some (.agg ⟨[.int .i64 ((rd data3724 (w64 (k_3729 + (1 : Int)))).often_), .slice A3734 ((rd data3724 (w64 (k_3729 + (1 : Int)))).symbols_).length c3735]⟩), some (.slice A3637 rw3723.length c3638), some (.int .i64 k_3729), some (slp A3637 (Int.toNat k_3729 * 2)), some (.agg ⟨[.int .i64 ((rd data3724 k_3729).often_), .slice A3741 ((rd data3724 k_3729).symbols_).length c3742]⟩), some (slp A3637 (Int.toNat k_3729 * 2)), none, none, none]) 15 [] [0, 1, 2, 3, 4, 5, 6, 7, 8, 9, 10, 11, 12, 13, 14] rfl rfl rfl rfl (by exact ⟨nR rfl rfl rfl rfl rfl (by exact ovE (mv rfl) rfl), nR rfl rfl rfl rfl rfl (by exact ovE (mv rfl) rfl), nR rfl rfl rfl rfl rfl (by exact ovE (mv rfl) rfl), nR rfl rfl rfl rfl rfl (by exact ovE (mv rfl) rfl), nR rfl rfl rfl rfl rfl (by exact ovE (bin rfl rfl rfl) rfl), nR rfl rfl rfl rfl rfl (by exact ovE (mv rfl) rfl), nR rfl rfl rfl rfl rfl (by exact ovE (mv rfl) rfl), nR rfl rfl rfl rfl rfl (by exact ovE (bin rfl rfl rfl) rfl), nR rfl rfl rfl rfl rfl (by exact ovE (ixV rfl rfl Try.runUnderlying68 Try.sizeOf70 (hV3726.rd (i := 1) rfl) Row.len rfl (hr3727.inb hk3733)) rfl), nR rfl rfl rfl rfl rfl (by exact ovE (ovE (ldVA rfl (hV3726.rd (i := 1) rfl) Row.len (hr3727.inb hk3733) Try.isAgg70 Try.sizeOf70 rfl) (congrArg (fun l => Value.agg ⟨l⟩) hw3738)) rfl), nR rfl rfl rfl rfl rfl (by exact ovE (mv rfl) rfl), nR rfl rfl rfl rfl rfl (by exact ovE (mv rfl) rfl), nR rfl rfl rfl rfl rfl (by exact ovE (ixV rfl rfl Try.runUnderlying68 Try.sizeOf70 (hV3726.rd (i := 1) rfl) Row.len rfl (hr3727.inb hk3740)) rfl), nR rfl rfl rfl rfl rfl (by exact ovE (ovE (ldVA rfl (hV3726.rd (i := 1) rfl) Row.len (hr3727.inb hk3740) Try.isAgg70 Try.sizeOf70 rfl) (congrArg (fun l => Value.agg ⟨l⟩) hw3745)) rfl), nR rfl rfl rfl rfl rfl (by exact ovE (ixV rfl rfl Try.runUnderlying68 Try.sizeOf70 (hV3726.rd (i := 1) rfl) Row.len rfl (hr3727.inb hk3740)) rfl), trivial⟩) (fun D l a w ho hcl hav hpre hm hE hk hA hst => ?_) ho hcl (fun j hj => (List.not_mem_nil hj).elim) (fun m hm => (List.not_mem_nil hm).elim) List.not_mem_nil hA hst
            have hS := (Ss.mk hE hst).env2 (e' := [(70, .agg ⟨[.int .i64 ((rd data3724 (w64 (k_3729 + (1 : Int)))).often_), .slice A3734 ((rd data3724 (w64 (k_3729 + (1 : Int)))).symbols_).length c3735]⟩), (75, slp A3637 (Int.toNat k_3729 * 2))]) ⟨rfl, rfl, trivial⟩
            refine op_of_nth rfl ?_
            refine stVR 1 (⟨[.int .i64 ((rd data3724 (w64 (k_3729 + (1 : Int)))).often_), .slice A3734 ((rd data3724 (w64 (k_3729 + (1 : Int)))).symbols_).length c3735], by simp, by simp [Value.oneCell']⟩ : Row 2) hS rfl rfl hV3726 rfl Try.sizeOf70 rfl (hr3727.inb hk3740) fun rw3752 w f3750 hz hV3751 hS => ?_
            obtain ⟨zs3753, hzm⟩ : ∃ z, z = data3724.set (Int.toNat k_3729) (T_huff_packet.mk ((rd data3724 (w64 (k_3729 + (1 : Int)))).often_) ((rd data3724 (w64 (k_3729 + (1 : Int)))).symbols_)) := ⟨_, rfl⟩
            replace hM := lt_to hzm hM
            have hr3754 := RelL.set (x := (T_huff_packet.mk ((rd data3724 (w64 (k_3729 + (1 : Int)))).often_) ((rd data3724 (w64 (k_3729 + (1 : Int)))).symbols_))) (r := (⟨[.int .i64 ((rd data3724 (w64 (k_3729 + (1 : Int)))).often_), .slice A3734 ((rd data3724 (w64 (k_3729 + (1 : Int)))).symbols_).length c3735], by simp, by simp [Value.oneCell']⟩ : Row 2)) (Int.toNat k_3729) hr3727 (show R_huff_packet p3636 _ _ from ⟨A3734, c3735, rfl, hp3736, hc3737⟩)
            have hz3755 : rw3752.length = rw3723.length := by rw [hz]; exact List.length_set ..
            rw [← hz, ← hzm] at hr3754; clear hz hzm
            have hz3756 := Eq.trans hz3755 hz3728
            refine wpList_nil (then_n ?_)
            have hcl2 := hcl.cons (k := 15) (nth_get rfl) hpre
            have hmust := must_cons (k := 15) hm (chain (k := 15) hcl (nth_get rfl) hpre [(0, 15), (1, 15), (5, 15), (6, 15), (7, 15), (8, 15), (9, 15), (13, 15), (14, 15), (12, 13), (10, 12), (11, 12)] [] rfl (fun _ h => absurd h List.not_mem_nil))
            replace hst := hS.st
            obtain ⟨hk3758, hM⟩ := wp_chk hM
            have hav2 := hav.cons (vals' := [some (.slice A3637 rw3723.length c3638), some (.int .i64 k_3729), some (.slice A3637 rw3723.length c3638), some (.int .i64 k_3729), some (.int .i64 (w64 (k_3729 + (1 : Int)))), some (.slice A3637 rw3723.length c3638), some (.int .i64 k_3729), some (.int .i64 (w64 (k_3729 + (1 : Int)))), some (slp A3637 (Int.toNat (w64 (k_3729 + (1 : Int))) * 2)), some (.agg ⟨[.int .i64 ((rd data3724 (w64 (k_3729 + (1 : Int)))).often_), .slice A3734 ((rd data3724 (w64 (k_3729 + (1 : Int)))).symbols_).length c3735]⟩), some (.slice A3637 rw3723.length c3638), some (.int .i64 k_3729), some (slp A3637 (Int.toNat k_3729 * 2)), some (.agg ⟨[.int .i64 ((rd data3724 k_3729).often_), .slice A3741 ((rd data3724 k_3729).symbols_).length c3742]⟩), some (slp A3637 (Int.toNat k_3729 * 2)), some undef, some (slp A3637 (Int.toNat (w64 (k_3729 + (1 : Int))) * 2)), none]) (k := 15) ⟨rfl, rfl, rfl, rfl, rfl, rfl, rfl, rfl, rfl, rfl, rfl, rfl, rfl, rfl, rfl, trivial⟩ rfl
            replace hA := (hA.next hav (subV.get (l' := [some (.slice A3637 rw3723.length c3638), some (.int .i64 k_3729), some (.slice A3637 rw3723.length c3638), some (.int .i64 k_3729), some (.int .i64 (w64 (k_3729 + (1 : Int)))), some (.slice A3637 rw3723.length c3638), some (.int .i64 k_3729), some (.int .i64 (w64 (k_3729 + (1 : Int)))), some (slp A3637 (Int.toNat (w64 (k_3729 + (1 : Int))) * 2)), some (.agg ⟨[.int .i64 ((rd data3724 (w64 (k_3729 + (1 : Int)))).often_), .slice A3734 ((rd data3724 (w64 (k_3729 + (1 : Int)))).symbols_).length c3735]⟩), some (.slice A3637 rw3723.length c3638), some (.int .i64 k_3729), some (slp A3637 (Int.toNat k_3729 * 2)), some (.agg ⟨[.int .i64 ((rd data3724 k_3729).often_), .slice A3741 ((rd data3724 k_3729).symbols_).length c3742]⟩), some (slp A3637 (Int.toNat k_3729 * 2)), some undef, some (slp A3637 (Int.toNat (w64 (k_3729 + (1 : Int))) * 2)), none]) ⟨rfl, rfl, rfl, rfl, rfl, rfl, rfl, rfl, rfl, rfl, rfl, rfl, rfl, rfl, rfl, trivial⟩)).stepN (i := 15) (nth_get rfl) rfl
            clear hm hav
            replace hcl := hcl2
            refine phase' (vals := [some (.slice A3637 rw3723.length c3638), some (.int .i64 k_3729), some (.slice A3637 rw3723.length c3638), some (.int .i64 k_3729), some (.int .i64 (w64 (k_3729 + (1 : Int)))), some (.slice A3637 rw3723.length c3638), some (.int .i64 k_3729), some (.int .i64 (w64 (k_3729 + (1 : Int)))), some (slp A3637 (Int.toNat (w64 (k_3729 + (1 : Int))) * 2)), some (.agg ⟨[.int .i64 ((rd data3724 (w64 (k_3729 + (1 : Int)))).often_), .slice A3734 ((rd data3724 (w64 (k_3729 + (1 : Int)))).symbols_).length c3735]⟩), some (.slice A3637 rw3723.length c3638), some (.int .i64 k_3729), some (slp A3637 (Int.toNat k_3729 * 2)), some (.agg ⟨[.int .i64 ((rd data3724 k_3729).often_), .slice A3741 ((rd data3724 k_3729).symbols_).length c3742]⟩), some (slp A3637 (Int.toNat k_3729 * 2)), some undef, some (slp A3637 (Int.toNat (w64 (k_3729 + (1 : Int))) * 2)), none]) 17 [15, 0, 1, 5, 6, 7, 8, 9, 13, 14, 12, 10, 11] [2, 3, 4, 16] rfl rfl rfl rfl (by exact ⟨nR rfl rfl rfl rfl rfl (by exact ovE (mv rfl) rfl), nR rfl rfl rfl rfl rfl (by exact ovE (mv rfl) rfl), nR rfl rfl rfl rfl rfl (by exact ovE (bin rfl rfl rfl) rfl), nR rfl rfl rfl rfl rfl (by exact ovE (ixV (lenx hz3755 rfl) rfl Try.runUnderlying68 Try.sizeOf70 (hV3751.rd (i := 1) rfl) Row.len rfl (hr3754.inb hk3758)) rfl), trivial⟩) (fun D l a w ho hcl hav hpre hm hE hk hA hst => ?_) ho hcl hav2 hmust (hav2.notin rfl) hA hst
            have hS := (Ss.mk hE hst).env2 (e' := [(74, .agg ⟨[.int .i64 ((rd data3724 k_3729).often_), .slice A3741 ((rd data3724 k_3729).symbols_).length c3742]⟩), (76, slp A3637 (Int.toNat (w64 (k_3729 + (1 : Int))) * 2))]) ⟨rfl, rfl, trivial⟩
            refine op_of_nth rfl ?_
            refine stVR 1 (⟨[.int .i64 ((rd data3724 k_3729).often_), .slice A3741 ((rd data3724 k_3729).symbols_).length c3742], by simp, by simp [Value.oneCell']⟩ : Row 2) hS rfl rfl hV3751 rfl Try.sizeOf70 rfl (hr3754.inb hk3758) fun rw3765 w f3763 hz hV3764 hS => ?_
            obtain ⟨zs3766, hzm⟩ : ∃ z, z = zs3753.set (Int.toNat (w64 (k_3729 + (1 : Int)))) (T_huff_packet.mk ((rd data3724 k_3729).often_) ((rd data3724 k_3729).symbols_)) := ⟨_, rfl⟩
            replace hM := lt_to hzm hM
            have hr3767 := RelL.set (x := (T_huff_packet.mk ((rd data3724 k_3729).often_) ((rd data3724 k_3729).symbols_))) (r := (⟨[.int .i64 ((rd data3724 k_3729).often_), .slice A3741 ((rd data3724 k_3729).symbols_).length c3742], by simp, by simp [Value.oneCell']⟩ : Row 2)) (Int.toNat (w64 (k_3729 + (1 : Int)))) hr3754 (show R_huff_packet p3636 _ _ from ⟨A3741, c3742, rfl, hp3743, hc3744⟩)
            have hz3768 : rw3765.length = rw3752.length := by rw [hz]; exact List.length_set ..
            rw [← hz, ← hzm] at hr3767; clear hz hzm
            have hz3769 := Eq.trans hz3768 hz3756
            refine wpList_nil (then_n ?_)
            have hcl2 := hcl.cons (k := 17) (nth_get rfl) hpre
            have hmust := must_cons (k := 17) hm (chain (k := 17) hcl (nth_get rfl) hpre [(0, 17), (1, 17), (2, 17), (3, 17), (4, 17), (5, 17), (6, 17), (7, 17), (8, 17), (9, 17), (10, 17), (11, 17), (12, 17), (13, 17), (14, 17), (15, 17), (16, 17)] [] rfl (fun _ h => absurd h List.not_mem_nil))
            replace hst := hS.st
            have hav2 := hav.cons (vals' := [some (.slice A3637 rw3723.length c3638), some (.int .i64 k_3729), some (.slice A3637 rw3723.length c3638), some (.int .i64 k_3729), some (.int .i64 (w64 (k_3729 + (1 : Int)))), some (.slice A3637 rw3723.length c3638), some (.int .i64 k_3729), some (.int .i64 (w64 (k_3729 + (1 : Int)))), some (slp A3637 (Int.toNat (w64 (k_3729 + (1 : Int))) * 2)), some (.agg ⟨[.int .i64 ((rd data3724 (w64 (k_3729 + (1 : Int)))).often_), .slice A3734 ((rd data3724 (w64 (k_3729 + (1 : Int)))).symbols_).length c3735]⟩), some (.slice A3637 rw3723.length c3638), some (.int .i64 k_3729), some (slp A3637 (Int.toNat k_3729 * 2)), some (.agg ⟨[.int .i64 ((rd data3724 k_3729).often_), .slice A3741 ((rd data3724 k_3729).symbols_).length c3742]⟩), some (slp A3637 (Int.toNat k_3729 * 2)), some undef, some (slp A3637 (Int.toNat (w64 (k_3729 + (1 : Int))) * 2)), some undef]) (k := 17) ⟨rfl, rfl, rfl, rfl, rfl, rfl, rfl, rfl, rfl, rfl, rfl, rfl, rfl, rfl, rfl, rfl, rfl, trivial⟩ rfl
            replace hA := (hA.next hav (subV.get (l' := [some (.slice A3637 rw3723.length c3638), some (.int .i64 k_3729), some (.slice A3637 rw3723.length c3638), some (.int .i64 k_3729), some (.int .i64 (w64 (k_3729 + (1 : Int)))), some (.slice A3637 rw3723.length c3638), some (.int .i64 k_3729), some (.int .i64 (w64 (k_3729 + (1 : Int)))), some (slp A3637 (Int.toNat (w64 (k_3729 + (1 : Int))) * 2)), some (.agg ⟨[.int .i64 ((rd data3724 (w64 (k_3729 + (1 : Int)))).often_), .slice A3734 ((rd data3724 (w64 (k_3729 + (1 : Int)))).symbols_).length c3735]⟩), some (.slice A3637 rw3723.length c3638), some (.int .i64 k_3729), some (slp A3637 (Int.toNat k_3729 * 2)), some (.agg ⟨[.int .i64 ((rd data3724 k_3729).often_), .slice A3741 ((rd data3724 k_3729).symbols_).length c3742]⟩), some (slp A3637 (Int.toNat k_3729 * 2)), some undef, some (slp A3637 (Int.toNat (w64 (k_3729 + (1 : Int))) * 2)), some undef]) ⟨rfl, rfl, rfl, rfl, rfl, rfl, rfl, rfl, rfl, rfl, rfl, rfl, rfl, rfl, rfl, rfl, rfl, trivial⟩)).stepN (i := 17) (nth_get rfl) rfl
            clear hm hav
            replace hcl := hcl2
            refine phaseE (vals := [some (.slice A3637 rw3723.length c3638), some (.int .i64 k_3729), some (.slice A3637 rw3723.length c3638), some (.int .i64 k_3729), some (.int .i64 (w64 (k_3729 + (1 : Int)))), some (.slice A3637 rw3723.length c3638), some (.int .i64 k_3729), some (.int .i64 (w64 (k_3729 + (1 : Int)))), some (slp A3637 (Int.toNat (w64 (k_3729 + (1 : Int))) * 2)), some (.agg ⟨[.int .i64 ((rd data3724 (w64 (k_3729 + (1 : Int)))).often_), .slice A3734 ((rd data3724 (w64 (k_3729 + (1 : Int)))).symbols_).length c3735]⟩), some (.slice A3637 rw3723.length c3638), some (.int .i64 k_3729), some (slp A3637 (Int.toNat k_3729 * 2)), some (.agg ⟨[.int .i64 ((rd data3724 k_3729).often_), .slice A3741 ((rd data3724 k_3729).symbols_).length c3742]⟩), some (slp A3637 (Int.toNat k_3729 * 2)), some undef, some (slp A3637 (Int.toNat (w64 (k_3729 + (1 : Int))) * 2)), some undef]) [17, 0, 1, 2, 3, 4, 5, 6, 7, 8, 9, 10, 11, 12, 13, 14, 15, 16, 15, 0, 1, 5, 6, 7, 8, 9, 13, 14, 12, 10, 11] [] rfl rfl rfl trivial (fun a w hS => ?_) ho hcl hmust hA hst
            replace hS := hS.env2 (e' := [(0, .slice A3637 rw3765.length c3638), (10, .int .i64 i3672), (13, .int .i64 k_3729)]) ⟨(relk (u := .slice A3637 rw3723.length c3638) rfl (by rw [hz3768, hz3755])), rfl, rfl, trivial⟩
            refine blk_n (then_n ?_)
            refine wp_region_list ?_
            refine st1 hS (mv rfl) rfl fun a w hS => ?_
            refine st1 hS (bin rfl rfl rfl) rfl fun a w hS => ?_
            refine st1x (v := Value.int .i64) hS (asg rfl) rfl fun k_3770 a w hz hS => ?_
            have hM := lt_to hz hM; clear hz
            refine wpList_nil ?_
            refine then_n ?_
            exact hJ3771 _ _ ⟨rw3765, zs3766, f3763, k_3770, hS.to [0, 1] (by kernel_rfl) ⟨rfl, rfl, rfl, trivial⟩, hV3764, hr3767, hz3769, hM⟩
          · refine wp_exit ?_
            refine then_ex (then_ex (blk_same (then_n ?_)))
            refine wp_ret ?_
            refine then_ret ?_
            exact s_ret (rs := []) hS rfl rfl (hret rw3723 data3724 f3725 w hM hV3726 hr3727 hz3728 (hS.st.pick [0, 1] (by kernel_rfl)))
    · refine wp_skip ?_
      refine then_n ?_
      exact hJ3772 _ _ ⟨hS.to [0, 1] (by kernel_rfl) ⟨rfl, rfl, rfl, rfl, rfl, trivial⟩, hM⟩
  · intro a w hI
    obtain ⟨hS, hM⟩ := hI
    rw [slices_symMergeCmpFunc_huff_packet__b6e1_b35e.j4] at hM
    refine seq_joinJ (fun a w => Ss 220 [] [(0, .slice A3637 rw3639.length c3638), (1, .int .i64 a_3643), (2, .int .i64 m3644), (3, .int .i64 b_3645), (4, fnv 41 [] [])] H [p3636, f3641] F a w ∧ (slices_symMergeCmpFunc_huff_packet__b6e1_b35e.j8 K (slices_symMergeCmpFunc_huff_packet__b6e1_b35e.r K d) data3635 a_3643 m3644 b_3645).wp kr kp) (fun J3897 hJ3897 => ?_) ?_
    · refine wp_seq ?_
      refine wp_region_list ?_
      refine st1 hS (mv rfl) rfl fun a w hS => ?_
      refine st1 hS (mv rfl) rfl fun a w hS => ?_
      refine st1 hS (bin rfl rfl rfl) rfl fun a w hS => ?_
      refine st1 hS (bin rfl rfl rfl) rfl fun a w hS => ?_
      refine wpList_nil ?_
      refine then_n ?_
      refine s_cond hS rfl hM (fun hb3773 hM => ?_) (fun hb3773 hM => ?_)
      · refine wp_seq ?_
        refine wp_region_list ?_
        refine st1 hS (mv rfl) rfl fun a w hS => ?_
        refine st1 hS (asg rfl) rfl fun a w hS => ?_
        refine wpList_nil ?_
        refine then_n ?_
        refine wp_seq ?_
        refine wp_region_list ?_
        refine st1 hS (mv rfl) rfl fun a w hS => ?_
        refine st1 hS (asg rfl) rfl fun a w hS => ?_
        refine wpList_nil ?_
        refine then_n ?_
        refine seq_joinJ (fun a w => ∃ (i3797 : Int), Ss 220 [] [(0, .slice A3637 rw3639.length c3638), (2, .int .i64 m3644), (14, .int .i64 i3797)] H [p3636, f3641] F a w ∧ (slices_symMergeCmpFunc_huff_packet__b6e1_b35e.j6 K (slices_symMergeCmpFunc_huff_packet__b6e1_b35e.r K d) data3635 m3644 i3797).wp kr kp) (fun J3798 hJ3798 => ?_) ?_
        · refine wp_block ?_
          refine s_loopJ (fun k3776 a w => ∃ (i3774 : Int) (j3775 : Int), Ss 220 [] [(0, .slice A3637 rw3639.length c3638), (2, .int .i64 m3644), (4, fnv 41 [] []), (14, .int .i64 i3774), (15, .int .i64 j3775)] H [p3636, f3641] F a w ∧ (slices_symMergeCmpFunc_huff_packet__b6e1_b35e.l5 K (slices_symMergeCmpFunc_huff_packet__b6e1_b35e.r K d) data3635 m3644 k3776 i3774 j3775).wp kr kp) K ?_ ?_ ?_
          · exact ⟨a_3643, m3644, hS.to [0, 1] (by kernel_rfl) ⟨rfl, rfl, rfl, rfl, rfl, trivial⟩, hM⟩
          · intro a w hI; obtain ⟨_, _, _, hM⟩ := hI; exact hM
          · intro k3776 a w hI J3796 hJ3796
            obtain ⟨i3774, j3775, hS, hM⟩ := hI
            rw [slices_symMergeCmpFunc_huff_packet__b6e1_b35e.l5] at hM
            refine wp_seq ?_
            refine wp_seq ?_
            refine wp_region_list ?_
            refine st1 hS (mv rfl) rfl fun a w hS => ?_
            refine st1 hS (mv rfl) rfl fun a w hS => ?_
            refine st1 hS (bin rfl rfl rfl) rfl fun a w hS => ?_
            refine wpList_nil ?_
            refine then_n ?_
            refine s_cond hS rfl hM (fun hb3777 hM => ?_) (fun hb3777 hM => ?_)
            · refine wp_skip ?_
              refine then_n ?_
              refine wp_block ?_
              refine wp_seq ?_
              refine wp_region_list ?_
              refine st1 hS (mv rfl) rfl fun a w hS => ?_
              refine st1 hS (mv rfl) rfl fun a w hS => ?_
              refine st1 hS (bin rfl rfl rfl) rfl fun a w hS => ?_
              refine st1 hS (cvi rfl Try.runUnderlying3 Try.runUnderlying46) rfl fun a w hS => ?_
              refine st1 hS (shr rfl rfl rfl) rfl fun a w hS => ?_
              refine st1 hS (cvi rfl Try.runUnderlying46 Try.runUnderlying3) rfl fun a w hS => ?_
              refine st1x (v := Value.int .i64) hS (asg rfl) rfl fun h3778 a w hz hS => ?_
              have hM := lt_to hz hM; clear hz
              refine wpList_nil ?_
              refine then_n ?_
              refine wp_seq ?_
              obtain ⟨hk3780, hM⟩ := wp_chk hM
              obtain ⟨A3781, c3782, hw3785, hp3783, hc3784⟩ := hr3640.get hk3780
              obtain ⟨hk3787, hM⟩ := wp_chk hM
              obtain ⟨A3788, c3789, hw3792, hp3790, hc3791⟩ := hr3640.get hk3787
              refine draw_begin (vals := [some (fnv 41 [] []), some (.slice A3637 rw3639.length c3638), some (.int .i64 m3644), some (slp A3637 (Int.toNat m3644 * 2)), some (.agg ⟨[.int .i64 ((rd data3635 m3644).often_), .slice A3781 ((rd data3635 m3644).symbols_).length c3782]⟩), some (.slice A3637 rw3639.length c3638), some (.int .i64 h3778), some (slp A3637 (Int.toNat h3778 * 2)), some (.agg ⟨[.int .i64 ((rd data3635 h3778).often_), .slice A3788 ((rd data3635 h3778).symbols_).length c3789]⟩), none, none, none]) hS mixed rfl ?_
              intro l w ho hcl hA hst
              refine phase' (vals := [some (fnv 41 [] []), some (.slice A3637 rw3639.length c3638), some (.int .i64 m3644), some (slp A3637 (Int.toNat m3644 * 2)), some (.agg ⟨[.int .i64 ((rd data3635 m3644).often_), .slice A3781 ((rd data3635 m3644).symbols_).length c3782]⟩), some (.slice A3637 rw3639.length c3638), some (.int .i64 h3778), some (slp A3637 (Int.toNat h3778 * 2)), some (.agg ⟨[.int .i64 ((rd data3635 h3778).often_), .slice A3788 ((rd data3635 h3778).symbols_).length c3789]⟩), none, none, none]) 9 [] [0, 1, 2, 3, 4, 5, 6, 7, 8] rfl rfl rfl rfl (by exact ⟨nR rfl rfl rfl rfl rfl (by exact ovE (mv rfl) rfl), nR rfl rfl rfl rfl rfl (by exact ovE (mv rfl) rfl), nR rfl rfl rfl rfl rfl (by exact ovE (mv rfl) rfl), nR rfl rfl rfl rfl rfl (by exact ovE (ixV rfl rfl Try.runUnderlying68 Try.sizeOf70 (hV3642.rd (i := 1) rfl) Row.len rfl (hr3640.inb hk3780)) rfl), nR rfl rfl rfl rfl rfl (by exact ovE (ovE (ldVA rfl (hV3642.rd (i := 1) rfl) Row.len (hr3640.inb hk3780) Try.isAgg70 Try.sizeOf70 rfl) (congrArg (fun l => Value.agg ⟨l⟩) hw3785)) rfl), nR rfl rfl rfl rfl rfl (by exact ovE (mv rfl) rfl), nR rfl rfl rfl rfl rfl (by exact ovE (mv rfl) rfl), nR rfl rfl rfl rfl rfl (by exact ovE (ixV rfl rfl Try.runUnderlying68 Try.sizeOf70 (hV3642.rd (i := 1) rfl) Row.len rfl (hr3640.inb hk3787)) rfl), nR rfl rfl rfl rfl rfl (by exact ovE (ovE (ldVA rfl (hV3642.rd (i := 1) rfl) Row.len (hr3640.inb hk3787) Try.isAgg70 Try.sizeOf70 rfl) (congrArg (fun l => Value.agg ⟨l⟩) hw3792)) rfl), trivial⟩) (fun D l a w ho hcl hav hpre hm hE hk hA hst => ?_) ho hcl (fun j hj => (List.not_mem_nil hj).elim) (fun m hm => (List.not_mem_nil hm).elim) List.not_mem_nil hA hst
              have hS := (Ss.mk hE hst).env2 (e' := [(92, fnv 41 [] []), (96, .agg ⟨[.int .i64 ((rd data3635 m3644).often_), .slice A3781 ((rd data3635 m3644).symbols_).length c3782]⟩), (100, .agg ⟨[.int .i64 ((rd data3635 h3778).often_), .slice A3788 ((rd data3635 h3778).symbols_).length c3789]⟩)]) ⟨rfl, rfl, rfl, trivial⟩
              refine op_of_nth rfl ?_
              refine s_callV hS rfl rfl Try.call41 (huff_merged_1_c hG K (T_huff_packet.mk ((rd data3635 m3644).often_) ((rd data3635 m3644).symbols_)) (T_huff_packet.mk ((rd data3635 h3778).often_) ((rd data3635 h3778).symbols_)) A3781 c3782 A3788 c3789 (hp3783.rdF (i := 0) rfl) hc3784 (hp3790.rdF (i := 0) rfl) hc3791 (hS.st.part 0 [0, 1] (by kernel_rfl)) (wp_bind hM) (fun x3793 w hM  hst => s_back hS.ev hst.appF rfl fun hS => ?_))
              replace hS : Ss _ _ _ H [p3636, f3641] F _ _ := hS
              refine wpList_nil (then_n ?_)
              have hcl2 := hcl.cons (k := 9) (nth_get rfl) hpre
              have hmust := must_cons (k := 9) hm (chain (k := 9) hcl (nth_get rfl) hpre [(0, 9), (4, 9), (8, 9), (3, 4), (7, 8), (1, 3), (2, 3), (5, 7), (6, 7)] [] rfl (fun _ h => absurd h List.not_mem_nil))
              replace hst := hS.st
              have hav2 := hav.cons (vals' := [some (fnv 41 [] []), some (.slice A3637 rw3639.length c3638), some (.int .i64 m3644), some (slp A3637 (Int.toNat m3644 * 2)), some (.agg ⟨[.int .i64 ((rd data3635 m3644).often_), .slice A3781 ((rd data3635 m3644).symbols_).length c3782]⟩), some (.slice A3637 rw3639.length c3638), some (.int .i64 h3778), some (slp A3637 (Int.toNat h3778 * 2)), some (.agg ⟨[.int .i64 ((rd data3635 h3778).often_), .slice A3788 ((rd data3635 h3778).symbols_).length c3789]⟩), some (.int .i64 x3793), some (.bool (decide (x3793 < (0 : Int)))), some (.bool (!(decide (x3793 < (0 : Int)))))]) (k := 9) ⟨rfl, rfl, rfl, rfl, rfl, rfl, rfl, rfl, rfl, trivial⟩ rfl
              replace hA := (hA.next hav (subV.get (l' := [some (fnv 41 [] []), some (.slice A3637 rw3639.length c3638), some (.int .i64 m3644), some (slp A3637 (Int.toNat m3644 * 2)), some (.agg ⟨[.int .i64 ((rd data3635 m3644).often_), .slice A3781 ((rd data3635 m3644).symbols_).length c3782]⟩), some (.slice A3637 rw3639.length c3638), some (.int .i64 h3778), some (slp A3637 (Int.toNat h3778 * 2)), some (.agg ⟨[.int .i64 ((rd data3635 h3778).often_), .slice A3788 ((rd data3635 h3778).symbols_).length c3789]⟩), some (.int .i64 x3793), some (.bool (decide (x3793 < (0 : Int)))), some (.bool (!(decide (x3793 < (0 : Int)))))]) ⟨rfl, rfl, rfl, rfl, rfl, rfl, rfl, rfl, rfl, trivial⟩)).step rfl (nth_get rfl) hk rfl rfl rfl
              clear hm hav
              replace hcl := hcl2
              refine phaseE (vals := [some (fnv 41 [] []), some (.slice A3637 rw3639.length c3638), some (.int .i64 m3644), some (slp A3637 (Int.toNat m3644 * 2)), some (.agg ⟨[.int .i64 ((rd data3635 m3644).often_), .slice A3781 ((rd data3635 m3644).symbols_).length c3782]⟩), some (.slice A3637 rw3639.length c3638), some (.int .i64 h3778), some (slp A3637 (Int.toNat h3778 * 2)), some (.agg ⟨[.int .i64 ((rd data3635 h3778).often_), .slice A3788 ((rd data3635 h3778).symbols_).length c3789]⟩), some (.int .i64 x3793), some (.bool (decide (x3793 < (0 : Int)))), some (.bool (!(decide (x3793 < (0 : Int)))))]) [9, 0, 4, 8, 3, 7, 1, 2, 5, 6] [10, 11] rfl rfl rfl (by exact ⟨nR rfl rfl rfl rfl rfl (by exact ovE (bin rfl rfl rfl) rfl), nR rfl rfl rfl rfl rfl (by exact ovE (un rfl rfl) rfl), trivial⟩) (fun a w hS => ?_) ho hcl hmust hA hst
              replace hS := hS.env2 (e' := [(0, .slice A3637 rw3639.length c3638), (2, .int .i64 m3644), (4, fnv 41 [] []), (14, .int .i64 i3774), (15, .int .i64 j3775), (16, .int .i64 h3778), (103, .bool (!(decide (x3793 < (0 : Int)))))]) ⟨rfl, rfl, rfl, rfl, rfl, rfl, rfl, trivial⟩
              refine then_n ?_
              refine s_cond hS rfl hM (fun hb3794 hM => ?_) (fun hb3794 hM => ?_)
              · refine wp_region_list ?_
                refine st1 hS (mv rfl) rfl fun a w hS => ?_
                refine st1 hS (bin rfl rfl rfl) rfl fun a w hS => ?_
                refine st1x (v := Value.int .i64) hS (asg rfl) rfl fun i3795 a w hz hS => ?_
                have hM := lt_to hz hM; clear hz
                refine wpList_nil ?_
                refine blk_n (then_n ?_)
                exact hJ3796 _ _ ⟨i3795, j3775, hS.to [0, 1] (by kernel_rfl) ⟨rfl, rfl, rfl, rfl, rfl, trivial⟩, hM⟩
              · refine wp_region_list ?_
                refine st1 hS (mv rfl) rfl fun a w hS => ?_
                refine st1 hS (asg rfl) rfl fun a w hS => ?_
                refine wpList_nil ?_
                refine blk_n (then_n ?_)
                exact hJ3796 _ _ ⟨i3774, h3778, hS.to [0, 1] (by kernel_rfl) ⟨rfl, rfl, rfl, rfl, rfl, trivial⟩, hM⟩
            · refine wp_exit ?_
              refine then_ex (then_ex (blk_same (then_n ?_)))
              exact hJ3798 _ _ ⟨i3774, hS.to [0, 1] (by kernel_rfl) ⟨rfl, rfl, rfl, trivial⟩, hM⟩
        · intro a w hI
          obtain ⟨i3797, hS, hM⟩ := hI
          rw [slices_symMergeCmpFunc_huff_packet__b6e1_b35e.j6] at hM
          refine wp_seq ?_
          refine wp_seq ?_
          refine wp_region_list ?_
          refine st1 hS (mv rfl) rfl fun a w hS => ?_
          refine st1 hS (asg rfl) rfl fun a w hS => ?_
          refine wpList_nil ?_
          refine then_n ?_
          refine wp_block ?_
          refine s_loopJ (fun k3855 a w => ∃ (rw3848 : List (Row 2)) (data3849 : (List T_huff_packet)) (f3850 : Frag) (k_3854 : Int), Ss 220 [] [(0, .slice A3637 rw3848.length c3638), (14, .int .i64 i3797), (17, .int .i64 k_3854)] H [p3636, f3850] F a w ∧ (Vec 70 (Row.v (sz := 2)) 2 A3637 rw3848 c3638 f3850) ∧ (RelL (R_huff_packet p3636) data3849 rw3848) ∧ (rw3848.length = rw3639.length) ∧ (slices_symMergeCmpFunc_huff_packet__b6e1_b35e.l7 K (slices_symMergeCmpFunc_huff_packet__b6e1_b35e.r K d) i3797 k3855 data3849 k_3854).wp kr kp) K ?_ ?_ ?_
          · exact ⟨rw3639, data3635, f3641, m3644, hS.to [0, 1] (by kernel_rfl) ⟨rfl, rfl, rfl, trivial⟩, hV3642, hr3640, hz3647, hM⟩
          · intro a w hI; obtain ⟨_, _, _, _, _, _, _, _, hM⟩ := hI; exact hM
          · intro k3855 a w hI J3896 hJ3896
            obtain ⟨rw3848, data3849, f3850, k_3854, hS, hV3851, hr3852, hz3853, hM⟩ := hI
            rw [slices_symMergeCmpFunc_huff_packet__b6e1_b35e.l7] at hM
            refine wp_seq ?_
            refine wp_seq ?_
            refine wp_region_list ?_
            refine st1 hS (mv rfl) rfl fun a w hS => ?_
            refine st1 hS (mv rfl) rfl fun a w hS => ?_
            refine st1 hS (bin rfl rfl rfl) rfl fun a w hS => ?_
            refine wpList_nil ?_
            refine then_n ?_
            refine s_cond hS rfl hM (fun hb3856 hM => ?_) (fun hb3856 hM => ?_)
            · refine wp_skip ?_
              refine then_n ?_
              refine wp_seq ?_
              refine wp_block ?_
              obtain ⟨hk3858, hM⟩ := wp_chk hM
              obtain ⟨A3859, c3860, hw3863, hp3861, hc3862⟩ := hr3852.get hk3858
              obtain ⟨hk3865, hM⟩ := wp_chk hM
              obtain ⟨A3866, c3867, hw3870, hp3868, hc3869⟩ := hr3852.get hk3865
              refine draw_begin (vals := [some (.slice A3637 rw3848.length c3638), some (.int .i64 k_3854), some (.slice A3637 rw3848.length c3638), some (.int .i64 k_3854), some (.int .i64 (w64 (k_3854 - (1 : Int)))), some (.slice A3637 rw3848.length c3638), some (.int .i64 k_3854), some (.int .i64 (w64 (k_3854 - (1 : Int)))), some (slp A3637 (Int.toNat (w64 (k_3854 - (1 : Int))) * 2)), some (.agg ⟨[.int .i64 ((rd data3849 (w64 (k_3854 - (1 : Int)))).often_), .slice A3859 ((rd data3849 (w64 (k_3854 - (1 : Int)))).symbols_).length c3860]⟩), some (.slice A3637 rw3848.length c3638), some (.int .i64 k_3854), some (slp A3637 (Int.toNat k_3854 * 2)), some (.agg ⟨[.int .i64 ((rd data3849 k_3854).often_), .slice A3866 ((rd data3849 k_3854).symbols_).length c3867]⟩), some (slp A3637 (Int.toNat k_3854 * 2)), none, none, none]) hS mixed rfl ?_
              intro l w ho hcl hA hst
              refine phase' (vals := [some (.slice A3637 rw3848.length c3638), some (.int .i64 k_3854), some (.slice A3637 rw3848.length c3638), some (.int .i64 k_3854), some (.int .i64 (w64 (k_3854 - (1 : Int)))), some (.slice A3637 rw3848.length c3638), some (.int .i64 k_3854), some (.int .i64 (w64 (k_3854 - (1 : Int)))), some (slp A3637 (Int.toNat (w64 (k_3854 - (1 : Int))) * 2)), some (.agg ⟨[.int .i64 ((rd data3849 (w64 (k_3854 - (1 : Int)))).often_), .slice A3859 ((rd data3849 (w64 (k_3854 - (1 : Int)))).symbols_).length c3860]⟩), some (.slice A3637 rw3848.length c3638), some (.int .i64 k_3854), some (slp A3637 (Int.toNat k_3854 * 2)), some (.agg ⟨[.int .i64 ((rd data3849 k_3854).often_), .slice A3866 ((rd data3849 k_3854).symbols_).length c3867]⟩), some (slp A3637 (Int.toNat k_3854 * 2)), none, none, none]) 15 [] [0, 1, 2, 3, 4, 5, 6, 7, 8, 9, 10, 11, 12, 13, 14] rfl rfl rfl rfl (by exact ⟨nR rfl rfl rfl rfl rfl (by exact ovE (mv rfl) rfl), nR rfl rfl rfl rfl rfl (by exact ovE (mv rfl) rfl), nR rfl rfl rfl rfl rfl (by exact ovE (mv rfl) rfl), nR rfl rfl rfl rfl rfl (by exact ovE (mv rfl) rfl), nR rfl rfl rfl rfl rfl (by exact ovE (bin rfl rfl rfl) rfl), nR rfl rfl rfl rfl rfl (by exact ovE (mv rfl) rfl), nR rfl rfl rfl rfl rfl (by exact ovE (mv rfl) rfl), nR rfl rfl rfl rfl rfl (by exact ovE (bin rfl rfl rfl) rfl), nR rfl rfl rfl rfl rfl (by exact ovE (ixV rfl rfl Try.runUnderlying68 Try.sizeOf70 (hV3851.rd (i := 1) rfl) Row.len rfl (hr3852.inb hk3858)) rfl), nR rfl rfl rfl rfl rfl (by exact ovE (ovE (ldVA rfl (hV3851.rd (i := 1) rfl) Row.len (hr3852.inb hk3858) Try.isAgg70 Try.sizeOf70 rfl) (congrArg (fun l => Value.agg ⟨l⟩) hw3863)) rfl), nR rfl rfl rfl rfl rfl (by exact ovE (mv rfl) rfl), nR rfl rfl rfl rfl rfl (by exact ovE (mv rfl) rfl), nR rfl rfl rfl rfl rfl (by exact ovE (ixV rfl rfl Try.runUnderlying68 Try.sizeOf70 (hV3851.rd (i := 1) rfl) Row.len rfl (hr3852.inb hk3865)) rfl), nR rfl rfl rfl rfl rfl (by exact ovE (ovE (ldVA rfl (hV3851.rd (i := 1) rfl) Row.len (hr3852.inb hk3865) Try.isAgg70 Try.sizeOf70 rfl) (congrArg (fun l => Value.agg ⟨l⟩) hw3870)) rfl), nR rfl rfl rfl rfl rfl (by exact ovE (ixV rfl rfl Try.runUnderlying68 Try.sizeOf70 (hV3851.rd (i := 1) rfl) Row.len rfl (hr3852.inb hk3865)) rfl), trivial⟩) (fun D l a w ho hcl hav hpre hm hE hk hA hst => ?_) ho hcl (fun j hj => (List.not_mem_nil hj).elim) (fun m hm => (List.not_mem_nil hm).elim) List.not_mem_nil hA hst
              have hS := (Ss.mk hE hst).env2 (e' := [(122, .agg ⟨[.int .i64 ((rd data3849 (w64 (k_3854 - (1 : Int)))).often_), .slice A3859 ((rd data3849 (w64 (k_3854 - (1 : Int)))).symbols_).length c3860]⟩), (127, slp A3637 (Int.toNat k_3854 * 2))]) ⟨rfl, rfl, trivial⟩
              refine op_of_nth rfl ?_
              refine stVR 1 (⟨[.int .i64 ((rd data3849 (w64 (k_3854 - (1 : Int)))).often_), .slice A3859 ((rd data3849 (w64 (k_3854 - (1 : Int)))).symbols_).length c3860], by simp, by simp [Value.oneCell']⟩ : Row 2) hS rfl rfl hV3851 rfl Try.sizeOf70 rfl (hr3852.inb hk3865) fun rw3877 w f3875 hz hV3876 hS => ?_
              obtain ⟨zs3878, hzm⟩ : ∃ z, z = data3849.set (Int.toNat k_3854) (T_huff_packet.mk ((rd data3849 (w64 (k_3854 - (1 : Int)))).often_) ((rd data3849 (w64 (k_3854 - (1 : Int)))).symbols_)) := ⟨_, rfl⟩
              replace hM := lt_to hzm hM
              have hr3879 := RelL.set (x := (T_huff_packet.mk ((rd data3849 (w64 (k_3854 - (1 : Int)))).often_) ((rd data3849 (w64 (k_3854 - (1 : Int)))).symbols_))) (r := (⟨[.int .i64 ((rd data3849 (w64 (k_3854 - (1 : Int)))).often_), .slice A3859 ((rd data3849 (w64 (k_3854 - (1 : Int)))).symbols_).length c3860], by simp, by simp [Value.oneCell']⟩ : Row 2)) (Int.toNat k_3854) hr3852 (show R_huff_packet p3636 _ _ from ⟨A3859, c3860, rfl, hp3861, hc3862⟩)
              have hz3880 : rw3877.length = rw3848.length := by rw [hz]; exact List.length_set ..
              rw [← hz, ← hzm] at hr3879; clear hz hzm
              have hz3881 := Eq.trans hz3880 hz3853
              refine wpList_nil (then_n ?_)
              have hcl2 := hcl.cons (k := 15) (nth_get rfl) hpre
              have hmust := must_cons (k := 15) hm (chain (k := 15) hcl (nth_get rfl) hpre [(0, 15), (1, 15), (5, 15), (6, 15), (7, 15), (8, 15), (9, 15), (13, 15), (14, 15), (12, 13), (10, 12), (11, 12)] [] rfl (fun _ h => absurd h List.not_mem_nil))
              replace hst := hS.st
              obtain ⟨hk3883, hM⟩ := wp_chk hM
              have hav2 := hav.cons (vals' := [some (.slice A3637 rw3848.length c3638), some (.int .i64 k_3854), some (.slice A3637 rw3848.length c3638), some (.int .i64 k_3854), some (.int .i64 (w64 (k_3854 - (1 : Int)))), some (.slice A3637 rw3848.length c3638), some (.int .i64 k_3854), some (.int .i64 (w64 (k_3854 - (1 : Int)))), some (slp A3637 (Int.toNat (w64 (k_3854 - (1 : Int))) * 2)), some (.agg ⟨[.int .i64 ((rd data3849 (w64 (k_3854 - (1 : Int)))).often_), .slice A3859 ((rd data3849 (w64 (k_3854 - (1 : Int)))).symbols_).length c3860]⟩), some (.slice A3637 rw3848.length c3638), some (.int .i64 k_3854), some (slp A3637 (Int.toNat k_3854 * 2)), some (.agg ⟨[.int .i64 ((rd data3849 k_3854).often_), .slice A3866 ((rd data3849 k_3854).symbols_).length c3867]⟩), some (slp A3637 (Int.toNat k_3854 * 2)), some undef, some (slp A3637 (Int.toNat (w64 (k_3854 - (1 : Int))) * 2)), none]) (k := 15) ⟨rfl, rfl, rfl, rfl, rfl, rfl, rfl, rfl, rfl, rfl, rfl, rfl, rfl, rfl, rfl, trivial⟩ rfl
              replace hA := (hA.next hav (subV.get (l' := [some (.slice A3637 rw3848.length c3638), some (.int .i64 k_3854), some (.slice A3637 rw3848.length c3638), some (.int .i64 k_3854), some (.int .i64 (w64 (k_3854 - (1 : Int)))), some (.slice A3637 rw3848.length c3638), some (.int .i64 k_3854), some (.int .i64 (w64 (k_3854 - (1 : Int)))), some (slp A3637 (Int.toNat (w64 (k_3854 - (1 : Int))) * 2)), some (.agg ⟨[.int .i64 ((rd data3849 (w64 (k_3854 - (1 : Int)))).often_), .slice A3859 ((rd data3849 (w64 (k_3854 - (1 : Int)))).symbols_).length c3860]⟩), some (.slice A3637 rw3848.length c3638), some (.int .i64 k_3854), some (slp A3637 (Int.toNat k_3854 * 2)), some (.agg ⟨[.int .i64 ((rd data3849 k_3854).often_), .slice A3866 ((rd data3849 k_3854).symbols_).length c3867]⟩), some (slp A3637 (Int.toNat k_3854 * 2)), some undef, some (slp A3637 (Int.toNat (w64 (k_3854 - (1 : Int))) * 2)), none]) ⟨rfl, rfl, rfl, rfl, rfl, rfl, rfl, rfl, rfl, rfl, rfl, rfl, rfl, rfl, rfl, trivial⟩)).stepN (i := 15) (nth_get rfl) rfl
              clear hm hav
              replace hcl := hcl2
              refine phase' (vals := [some (.slice A3637 rw3848.length c3638), some (.int .i64 k_3854), some (.slice A3637 rw3848.length c3638), some (.int .i64 k_3854), some (.int .i64 (w64 (k_3854 - (1 : Int)))), some (.slice A3637 rw3848.length c3638), some (.int .i64 k_3854), some (.int .i64 (w64 (k_3854 - (1 : Int)))), some (slp A3637 (Int.toNat (w64 (k_3854 - (1 : Int))) * 2)), some (.agg ⟨[.int .i64 ((rd data3849 (w64 (k_3854 - (1 : Int)))).often_), .slice A3859 ((rd data3849 (w64 (k_3854 - (1 : Int)))).symbols_).length c3860]⟩), some (.slice A3637 rw3848.length c3638), some (.int .i64 k_3854), some (slp A3637 (Int.toNat k_3854 * 2)), some (.agg ⟨[.int .i64 ((rd data3849 k_3854).often_), .slice A3866 ((rd data3849 k_3854).symbols_).length c3867]⟩), some (slp A3637 (Int.toNat k_3854 * 2)), some undef, some (slp A3637 (Int.toNat (w64 (k_3854 - (1 : Int))) * 2)), none]) 17 [15, 0, 1, 5, 6, 7, 8, 9, 13, 14, 12, 10, 11] [2, 3, 4, 16] rfl rfl rfl rfl (by exact ⟨nR rfl rfl rfl rfl rfl (by exact ovE (mv rfl) rfl), nR rfl rfl rfl rfl rfl (by exact ovE (mv rfl) rfl), nR rfl rfl rfl rfl rfl (by exact ovE (bin rfl rfl rfl) rfl), nR rfl rfl rfl rfl rfl (by exact ovE (ixV (lenx hz3880 rfl) rfl Try.runUnderlying68 Try.sizeOf70 (hV3876.rd (i := 1) rfl) Row.len rfl (hr3879.inb hk3883)) rfl), trivial⟩) (fun D l a w ho hcl hav hpre hm hE hk hA hst => ?_) ho hcl hav2 hmust (hav2.notin rfl) hA hst
              have hS := (Ss.mk hE hst).env2 (e' := [(126, .agg ⟨[.int .i64 ((rd data3849 k_3854).often_), .slice A3866 ((rd data3849 k_3854).symbols_).length c3867]⟩), (128, slp A3637 (Int.toNat (w64 (k_3854 - (1 : Int))) * 2))]) ⟨rfl, rfl, trivial⟩
              refine op_of_nth rfl ?_
              refine stVR 1 (⟨[.int .i64 ((rd data3849 k_3854).often_), .slice A3866 ((rd data3849 k_3854).symbols_).length c3867], by simp, by simp [Value.oneCell']⟩ : Row 2) hS rfl rfl hV3876 rfl Try.sizeOf70 rfl (hr3879.inb hk3883) fun rw3890 w f3888 hz hV3889 hS => ?_
              obtain ⟨zs3891, hzm⟩ : ∃ z, z = zs3878.set (Int.toNat (w64 (k_3854 - (1 : Int)))) (T_huff_packet.mk ((rd data3849 k_3854).often_) ((rd data3849 k_3854).symbols_)) := ⟨_, rfl⟩
              replace hM := lt_to hzm hM
              have hr3892 := RelL.set (x := (T_huff_packet.mk ((rd data3849 k_3854).often_) ((rd data3849 k_3854).symbols_))) (r := (⟨[.int .i64 ((rd data3849 k_3854).often_), .slice A3866 ((rd data3849 k_3854).symbols_).length c3867], by simp, by simp [Value.oneCell']⟩ : Row 2)) (Int.toNat (w64 (k_3854 - (1 : Int)))) hr3879 (show R_huff_packet p3636 _ _ from ⟨A3866, c3867, rfl, hp3868, hc3869⟩)
              have hz3893 : rw3890.length = rw3877.length := by rw [hz]; exact List.length_set ..
              rw [← hz, ← hzm] at hr3892; clear hz hzm
              have hz3894 := Eq.trans hz3893 hz3881
              refine wpList_nil (then_n ?_)
              have hcl2 := hcl.cons (k := 17) (nth_get rfl) hpre
              have hmust := must_cons (k := 17) hm (chain (k := 17) hcl (nth_get rfl) hpre [(0, 17), (1, 17), (2, 17), (3, 17), (4, 17), (5, 17), (6, 17), (7, 17), (8, 17), (9, 17), (10, 17), (11, 17), (12, 17), (13, 17), (14, 17), (15, 17), (16, 17)] [] rfl (fun _ h => absurd h List.not_mem_nil))
              replace hst := hS.st
              have hav2 := hav.cons (vals' := [some (.slice A3637 rw3848.length c3638), some (.int .i64 k_3854), some (.slice A3637 rw3848.length c3638), some (.int .i64 k_3854), some (.int .i64 (w64 (k_3854 - (1 : Int)))), some (.slice A3637 rw3848.length c3638), some (.int .i64 k_3854), some (.int .i64 (w64 (k_3854 - (1 : Int)))), some (slp A3637 (Int.toNat (w64 (k_3854 - (1 : Int))) * 2)), some (.agg ⟨[.int .i64 ((rd data3849 (w64 (k_3854 - (1 : Int)))).often_), .slice A3859 ((rd data3849 (w64 (k_3854 - (1 : Int)))).symbols_).length c3860]⟩), some (.slice A3637 rw3848.length c3638), some (.int .i64 k_3854), some (slp A3637 (Int.toNat k_3854 * 2)), some (.agg ⟨[.int .i64 ((rd data3849 k_3854).often_), .slice A3866 ((rd data3849 k_3854).symbols_).length c3867]⟩), some (slp A3637 (Int.toNat k_3854 * 2)), some undef, some (slp A3637 (Int.toNat (w64 (k_3854 - (1 : Int))) * 2)), some undef]) (k := 17) ⟨rfl, rfl, rfl, rfl, rfl, rfl, rfl, rfl, rfl, rfl, rfl, rfl, rfl, rfl, rfl, rfl, rfl, trivial⟩ rfl
              replace hA := (hA.next hav (subV.get (l' := [some (.slice A3637 rw3848.length c3638), some (.int .i64 k_3854), some (.slice A3637 rw3848.length c3638), some (.int .i64 k_3854), some (.int .i64 (w64 (k_3854 - (1 : Int)))), some (.slice A3637 rw3848.length c3638), some (.int .i64 k_3854), some (.int .i64 (w64 (k_3854 - (1 : Int)))), some (slp A3637 (Int.toNat (w64 (k_3854 - (1 : Int))) * 2)), some (.agg ⟨[.int .i64 ((rd data3849 (w64 (k_3854 - (1 : Int)))).often_), .slice A3859 ((rd data3849 (w64 (k_3854 - (1 : Int)))).symbols_).length c3860]⟩), some (.slice A3637 rw3848.length c3638), some (.int .i64 k_3854), some (slp A3637 (Int.toNat k_3854 * 2)), some (.agg ⟨[.int .i64 ((rd data3849 k_3854).often_), .slice A3866 ((rd data3849 k_3854).symbols_).length c3867]⟩), some (slp A3637 (Int.toNat k_3854 * 2)), some undef, some (slp A3637 (Int.toNat (w64 (k_3854 - (1 : Int))) * 2)), some undef]) ⟨rfl, rfl, rfl, rfl, rfl, rfl, rfl, rfl, rfl, rfl, rfl, rfl, rfl, rfl, rfl, rfl, rfl, trivial⟩)).stepN (i := 17) (nth_get rfl) rfl
              clear hm hav
              replace hcl := hcl2
              refine phaseE (vals := [some (.slice A3637 rw3848.length c3638), some (.int .i64 k_3854), some (.slice A3637 rw3848.length c3638), some (.int .i64 k_3854), some (.int .i64 (w64 (k_3854 - (1 : Int)))), some (.slice A3637 rw3848.length c3638), some (.int .i64 k_3854), some (.int .i64 (w64 (k_3854 - (1 : Int)))), some (slp A3637 (Int.toNat (w64 (k_3854 - (1 : Int))) * 2)), some (.agg ⟨[.int .i64 ((rd data3849 (w64 (k_3854 - (1 : Int)))).often_), .slice A3859 ((rd data3849 (w64 (k_3854 - (1 : Int)))).symbols_).length c3860]⟩), some (.slice A3637 rw3848.length c3638), some (.int .i64 k_3854), some (slp A3637 (Int.toNat k_3854 * 2)), some (.agg ⟨[.int .i64 ((rd data3849 k_3854).often_), .slice A3866 ((rd data3849 k_3854).symbols_).length c3867]⟩), some (slp A3637 (Int.toNat k_3854 * 2)), some undef, some (slp A3637 (Int.toNat (w64 (k_3854 - (1 : Int))) * 2)), some undef]) [17, 0, 1, 2, 3, 4, 5, 6, 7, 8, 9, 10, 11, 12, 13, 14, 15, 16, 15, 0, 1, 5, 6, 7, 8, 9, 13, 14, 12, 10, 11] [] rfl rfl rfl trivial (fun a w hS => ?_) ho hcl hmust hA hst
              replace hS := hS.env2 (e' := [(0, .slice A3637 rw3890.length c3638), (14, .int .i64 i3797), (17, .int .i64 k_3854)]) ⟨(relk (u := .slice A3637 rw3848.length c3638) rfl (by rw [hz3893, hz3880])), rfl, rfl, trivial⟩
              refine blk_n (then_n ?_)
              refine wp_region_list ?_
              refine st1 hS (mv rfl) rfl fun a w hS => ?_
              refine st1 hS (bin rfl rfl rfl) rfl fun a w hS => ?_
              refine st1x (v := Value.int .i64) hS (asg rfl) rfl fun k_3895 a w hz hS => ?_
              have hM := lt_to hz hM; clear hz
              refine wpList_nil ?_
              refine then_n ?_
              exact hJ3896 _ _ ⟨rw3890, zs3891, f3888, k_3895, hS.to [0, 1] (by kernel_rfl) ⟨rfl, rfl, rfl, trivial⟩, hV3889, hr3892, hz3894, hM⟩
            · refine wp_exit ?_
              refine then_ex (then_ex (blk_same (then_n ?_)))
              refine wp_ret ?_
              refine then_ret ?_
              exact s_ret (rs := []) hS rfl rfl (hret rw3848 data3849 f3850 w hM hV3851 hr3852 hz3853 (hS.st.pick [0, 1] (by kernel_rfl)))
      · refine wp_skip ?_
        refine then_n ?_
        exact hJ3897 _ _ ⟨hS.to [0, 1] (by kernel_rfl) ⟨rfl, rfl, rfl, rfl, rfl, trivial⟩, hM⟩
    · intro a w hI
      obtain ⟨hS, hM⟩ := hI
      rw [slices_symMergeCmpFunc_huff_packet__b6e1_b35e.j8] at hM
      refine wp_seq ?_
      refine wp_region_list ?_
      refine st1 hS (mv rfl) rfl fun a w hS => ?_
      refine st1 hS (mv rfl) rfl fun a w hS => ?_
      refine st1 hS (bin rfl rfl rfl) rfl fun a w hS => ?_
      refine st1 hS (cvi rfl Try.runUnderlying3 Try.runUnderlying46) rfl fun a w hS => ?_
      refine st1 hS (shr rfl rfl rfl) rfl fun a w hS => ?_
      refine st1 hS (cvi rfl Try.runUnderlying46 Try.runUnderlying3) rfl fun a w hS => ?_
      refine st1x (v := Value.int .i64) hS (asg rfl) rfl fun mid3898 a w hz hS => ?_
      have hM := lt_to hz hM; clear hz
      refine wpList_nil ?_
      refine then_n ?_
      refine wp_seq ?_
      refine wp_region_list ?_
      refine st1 hS (mv rfl) rfl fun a w hS => ?_
      refine st1 hS (mv rfl) rfl fun a w hS => ?_
      refine st1 hS (bin rfl rfl rfl) rfl fun a w hS => ?_
      refine st1x (v := Value.int .i64) hS (asg rfl) rfl fun n_3899 a w hz hS => ?_
      have hM := lt_to hz hM; clear hz
      refine wpList_nil ?_
      refine then_n ?_
      refine wp_seq ?_
      refine wp_region_list ?_
      refine st1 hS (asg rfl) rfl fun a w hS => ?_
      refine st1 hS (asg rfl) rfl fun a w hS => ?_
      refine wpList_nil ?_
      refine then_n ?_
      refine seq_joinJ (fun a w => ∃ (start3902 : Int) (r3903 : Int), Ss 220 [] [(0, .slice A3637 rw3639.length c3638), (1, .int .i64 a_3643), (2, .int .i64 m3644), (3, .int .i64 b_3645), (4, fnv 41 [] []), (18, .int .i64 mid3898), (19, .int .i64 n_3899), (20, .int .i64 start3902), (21, .int .i64 r3903)] H [p3636, f3641] F a w ∧ (slices_symMergeCmpFunc_huff_packet__b6e1_b35e.j9 K (slices_symMergeCmpFunc_huff_packet__b6e1_b35e.r K d) data3635 a_3643 m3644 b_3645 mid3898 n_3899 start3902 r3903).wp kr kp) (fun J3904 hJ3904 => ?_) ?_
      · refine wp_seq ?_
        refine wp_region_list ?_
        refine st1 hS (mv rfl) rfl fun a w hS => ?_
        refine st1 hS (mv rfl) rfl fun a w hS => ?_
        refine st1 hS (bin rfl rfl rfl) rfl fun a w hS => ?_
        refine wpList_nil ?_
        refine then_n ?_
        refine s_cond hS rfl hM (fun hb3900 hM => ?_) (fun hb3900 hM => ?_)
        · refine wp_seq ?_
          refine wp_region_list ?_
          refine st1 hS (mv rfl) rfl fun a w hS => ?_
          refine st1 hS (mv rfl) rfl fun a w hS => ?_
          refine st1 hS (bin rfl rfl rfl) rfl fun a w hS => ?_
          refine st1x (v := Value.int .i64) hS (asg rfl) rfl fun start3901 a w hz hS => ?_
          have hM := lt_to hz hM; clear hz
          refine wpList_nil ?_
          refine then_n ?_
          refine wp_region_list ?_
          refine st1 hS (mv rfl) rfl fun a w hS => ?_
          refine st1 hS (asg rfl) rfl fun a w hS => ?_
          refine wpList_nil ?_
          refine then_n ?_
          exact hJ3904 _ _ ⟨start3901, mid3898, hS.to [0, 1] (by kernel_rfl) ⟨rfl, rfl, rfl, rfl, rfl, rfl, rfl, rfl, rfl, trivial⟩, hM⟩
        · refine wp_seq ?_
          refine wp_region_list ?_
          refine st1 hS (mv rfl) rfl fun a w hS => ?_
          refine st1 hS (asg rfl) rfl fun a w hS => ?_
          refine wpList_nil ?_
          refine then_n ?_
          refine wp_region_list ?_
          refine st1 hS (mv rfl) rfl fun a w hS => ?_
          refine st1 hS (asg rfl) rfl fun a w hS => ?_
          refine wpList_nil ?_
          refine then_n ?_
          exact hJ3904 _ _ ⟨a_3643, m3644, hS.to [0, 1] (by kernel_rfl) ⟨rfl, rfl, rfl, rfl, rfl, rfl, rfl, rfl, rfl, trivial⟩, hM⟩
      · intro a w hI
        obtain ⟨start3902, r3903, hS, hM⟩ := hI
        rw [slices_symMergeCmpFunc_huff_packet__b6e1_b35e.j9] at hM
        refine wp_seq ?_
        refine wp_region_list ?_
        refine st1 hS (mv rfl) rfl fun a w hS => ?_
        refine st1 hS (bin rfl rfl rfl) rfl fun a w hS => ?_
        refine st1x (v := Value.int .i64) hS (asg rfl) rfl fun p3905 a w hz hS => ?_
        have hM := lt_to hz hM; clear hz
        refine wpList_nil ?_
        refine then_n ?_
        refine seq_joinJ (fun a w => ∃ (start3929 : Int), Ss 220 [] [(0, .slice A3637 rw3639.length c3638), (1, .int .i64 a_3643), (2, .int .i64 m3644), (3, .int .i64 b_3645), (4, fnv 41 [] []), (18, .int .i64 mid3898), (19, .int .i64 n_3899), (20, .int .i64 start3929)] H [p3636, f3641] F a w ∧ (slices_symMergeCmpFunc_huff_packet__b6e1_b35e.j11 K (slices_symMergeCmpFunc_huff_packet__b6e1_b35e.r K d) data3635 a_3643 m3644 b_3645 mid3898 n_3899 start3929).wp kr kp) (fun J3930 hJ3930 => ?_) ?_
        · refine wp_block ?_
          refine s_loopJ (fun k3908 a w => ∃ (start3906 : Int) (r3907 : Int), Ss 220 [] [(0, .slice A3637 rw3639.length c3638), (1, .int .i64 a_3643), (2, .int .i64 m3644), (3, .int .i64 b_3645), (4, fnv 41 [] []), (18, .int .i64 mid3898), (19, .int .i64 n_3899), (20, .int .i64 start3906), (21, .int .i64 r3907), (22, .int .i64 p3905)] H [p3636, f3641] F a w ∧ (slices_symMergeCmpFunc_huff_packet__b6e1_b35e.l10 K (slices_symMergeCmpFunc_huff_packet__b6e1_b35e.r K d) data3635 a_3643 m3644 b_3645 mid3898 n_3899 p3905 k3908 start3906 r3907).wp kr kp) K ?_ ?_ ?_
          · exact ⟨start3902, r3903, hS.to [0, 1] (by kernel_rfl) ⟨rfl, rfl, rfl, rfl, rfl, rfl, rfl, rfl, rfl, rfl, trivial⟩, hM⟩
          · intro a w hI; obtain ⟨_, _, _, hM⟩ := hI; exact hM
          · intro k3908 a w hI J3928 hJ3928
            obtain ⟨start3906, r3907, hS, hM⟩ := hI
            rw [slices_symMergeCmpFunc_huff_packet__b6e1_b35e.l10] at hM
            refine wp_seq ?_
            refine wp_seq ?_
            refine wp_region_list ?_
            refine st1 hS (mv rfl) rfl fun a w hS => ?_
            refine st1 hS (mv rfl) rfl fun a w hS => ?_
            refine st1 hS (bin rfl rfl rfl) rfl fun a w hS => ?_
            refine wpList_nil ?_
            refine then_n ?_
            refine s_cond hS rfl hM (fun hb3909 hM => ?_) (fun hb3909 hM => ?_)
            · refine wp_skip ?_
              refine then_n ?_
              refine wp_block ?_
              refine wp_seq ?_
              refine wp_region_list ?_
              refine st1 hS (mv rfl) rfl fun a w hS => ?_
              refine st1 hS (mv rfl) rfl fun a w hS => ?_
              refine st1 hS (bin rfl rfl rfl) rfl fun a w hS => ?_
              refine st1 hS (cvi rfl Try.runUnderlying3 Try.runUnderlying46) rfl fun a w hS => ?_
              refine st1 hS (shr rfl rfl rfl) rfl fun a w hS => ?_
              refine st1 hS (cvi rfl Try.runUnderlying46 Try.runUnderlying3) rfl fun a w hS => ?_
              refine st1x (v := Value.int .i64) hS (asg rfl) rfl fun c_3910 a w hz hS => ?_
              have hM := lt_to hz hM; clear hz
              refine wpList_nil ?_
              refine then_n ?_
              refine wp_seq ?_
              obtain ⟨hk3912, hM⟩ := wp_chk hM
              obtain ⟨A3913, c3914, hw3917, hp3915, hc3916⟩ := hr3640.get hk3912
              obtain ⟨hk3919, hM⟩ := wp_chk hM
              obtain ⟨A3920, c3921, hw3924, hp3922, hc3923⟩ := hr3640.get hk3919
              refine draw_begin (vals := [some (fnv 41 [] []), some (.slice A3637 rw3639.length c3638), some (.int .i64 p3905), some (.int .i64 c_3910), some (.int .i64 (w64 (p3905 - c_3910))), some (slp A3637 (Int.toNat (w64 (p3905 - c_3910)) * 2)), some (.agg ⟨[.int .i64 ((rd data3635 (w64 (p3905 - c_3910))).often_), .slice A3913 ((rd data3635 (w64 (p3905 - c_3910))).symbols_).length c3914]⟩), some (.slice A3637 rw3639.length c3638), some (.int .i64 c_3910), some (slp A3637 (Int.toNat c_3910 * 2)), some (.agg ⟨[.int .i64 ((rd data3635 c_3910).often_), .slice A3920 ((rd data3635 c_3910).symbols_).length c3921]⟩), none, none, none]) hS mixed rfl ?_
              intro l w ho hcl hA hst
              refine phase' (vals := [some (fnv 41 [] []), some (.slice A3637 rw3639.length c3638), some (.int .i64 p3905), some (.int .i64 c_3910), some (.int .i64 (w64 (p3905 - c_3910))), some (slp A3637 (Int.toNat (w64 (p3905 - c_3910)) * 2)), some (.agg ⟨[.int .i64 ((rd data3635 (w64 (p3905 - c_3910))).often_), .slice A3913 ((rd data3635 (w64 (p3905 - c_3910))).symbols_).length c3914]⟩), some (.slice A3637 rw3639.length c3638), some (.int .i64 c_3910), some (slp A3637 (Int.toNat c_3910 * 2)), some (.agg ⟨[.int .i64 ((rd data3635 c_3910).often_), .slice A3920 ((rd data3635 c_3910).symbols_).length c3921]⟩), none, none, none]) 11 [] [0, 1, 2, 3, 4, 5, 6, 7, 8, 9, 10] rfl rfl rfl rfl (by exact ⟨nR rfl rfl rfl rfl rfl (by exact ovE (mv rfl) rfl), nR rfl rfl rfl rfl rfl (by exact ovE (mv rfl) rfl), nR rfl rfl rfl rfl rfl (by exact ovE (mv rfl) rfl), nR rfl rfl rfl rfl rfl (by exact ovE (mv rfl) rfl), nR rfl rfl rfl rfl rfl (by exact ovE (bin rfl rfl rfl) rfl), nR rfl rfl rfl rfl rfl (by exact ovE (ixV rfl rfl Try.runUnderlying68 Try.sizeOf70 (hV3642.rd (i := 1) rfl) Row.len rfl (hr3640.inb hk3912)) rfl), nR rfl rfl rfl rfl rfl (by exact ovE (ovE (ldVA rfl (hV3642.rd (i := 1) rfl) Row.len (hr3640.inb hk3912) Try.isAgg70 Try.sizeOf70 rfl) (congrArg (fun l => Value.agg ⟨l⟩) hw3917)) rfl), nR rfl rfl rfl rfl rfl (by exact ovE (mv rfl) rfl), nR rfl rfl rfl rfl rfl (by exact ovE (mv rfl) rfl), nR rfl rfl rfl rfl rfl (by exact ovE (ixV rfl rfl Try.runUnderlying68 Try.sizeOf70 (hV3642.rd (i := 1) rfl) Row.len rfl (hr3640.inb hk3919)) rfl), nR rfl rfl rfl rfl rfl (by exact ovE (ovE (ldVA rfl (hV3642.rd (i := 1) rfl) Row.len (hr3640.inb hk3919) Try.isAgg70 Try.sizeOf70 rfl) (congrArg (fun l => Value.agg ⟨l⟩) hw3924)) rfl), trivial⟩) (fun D l a w ho hcl hav hpre hm hE hk hA hst => ?_) ho hcl (fun j hj => (List.not_mem_nil hj).elim) (fun m hm => (List.not_mem_nil hm).elim) List.not_mem_nil hA hst
              have hS := (Ss.mk hE hst).env2 (e' := [(158, fnv 41 [] []), (164, .agg ⟨[.int .i64 ((rd data3635 (w64 (p3905 - c_3910))).often_), .slice A3913 ((rd data3635 (w64 (p3905 - c_3910))).symbols_).length c3914]⟩), (168, .agg ⟨[.int .i64 ((rd data3635 c_3910).often_), .slice A3920 ((rd data3635 c_3910).symbols_).length c3921]⟩)]) ⟨rfl, rfl, rfl, trivial⟩
              refine op_of_nth rfl ?_
              refine s_callV hS rfl rfl Try.call41 (huff_merged_1_c hG K (T_huff_packet.mk ((rd data3635 (w64 (p3905 - c_3910))).often_) ((rd data3635 (w64 (p3905 - c_3910))).symbols_)) (T_huff_packet.mk ((rd data3635 c_3910).often_) ((rd data3635 c_3910).symbols_)) A3913 c3914 A3920 c3921 (hp3915.rdF (i := 0) rfl) hc3916 (hp3922.rdF (i := 0) rfl) hc3923 (hS.st.part 0 [0, 1] (by kernel_rfl)) (wp_bind hM) (fun x3925 w hM  hst => s_back hS.ev hst.appF rfl fun hS => ?_))
              replace hS : Ss _ _ _ H [p3636, f3641] F _ _ := hS
              refine wpList_nil (then_n ?_)
              have hcl2 := hcl.cons (k := 11) (nth_get rfl) hpre
              have hmust := must_cons (k := 11) hm (chain (k := 11) hcl (nth_get rfl) hpre [(0, 11), (6, 11), (10, 11), (5, 6), (9, 10), (1, 5), (4, 5), (7, 9), (8, 9), (2, 4), (3, 4)] [] rfl (fun _ h => absurd h List.not_mem_nil))
              replace hst := hS.st
              have hav2 := hav.cons (vals' := [some (fnv 41 [] []), some (.slice A3637 rw3639.length c3638), some (.int .i64 p3905), some (.int .i64 c_3910), some (.int .i64 (w64 (p3905 - c_3910))), some (slp A3637 (Int.toNat (w64 (p3905 - c_3910)) * 2)), some (.agg ⟨[.int .i64 ((rd data3635 (w64 (p3905 - c_3910))).often_), .slice A3913 ((rd data3635 (w64 (p3905 - c_3910))).symbols_).length c3914]⟩), some (.slice A3637 rw3639.length c3638), some (.int .i64 c_3910), some (slp A3637 (Int.toNat c_3910 * 2)), some (.agg ⟨[.int .i64 ((rd data3635 c_3910).often_), .slice A3920 ((rd data3635 c_3910).symbols_).length c3921]⟩), some (.int .i64 x3925), some (.bool (decide (x3925 < (0 : Int)))), some (.bool (!(decide (x3925 < (0 : Int)))))]) (k := 11) ⟨rfl, rfl, rfl, rfl, rfl, rfl, rfl, rfl, rfl, rfl, rfl, trivial⟩ rfl
              replace hA := (hA.next hav (subV.get (l' := [some (fnv 41 [] []), some (.slice A3637 rw3639.length c3638), some (.int .i64 p3905), some (.int .i64 c_3910), some (.int .i64 (w64 (p3905 - c_3910))), some (slp A3637 (Int.toNat (w64 (p3905 - c_3910)) * 2)), some (.agg ⟨[.int .i64 ((rd data3635 (w64 (p3905 - c_3910))).often_), .slice A3913 ((rd data3635 (w64 (p3905 - c_3910))).symbols_).length c3914]⟩), some (.slice A3637 rw3639.length c3638), some (.int .i64 c_3910), some (slp A3637 (Int.toNat c_3910 * 2)), some (.agg ⟨[.int .i64 ((rd data3635 c_3910).often_), .slice A3920 ((rd data3635 c_3910).symbols_).length c3921]⟩), some (.int .i64 x3925), some (.bool (decide (x3925 < (0 : Int)))), some (.bool (!(decide (x3925 < (0 : Int)))))]) ⟨rfl, rfl, rfl, rfl, rfl, rfl, rfl, rfl, rfl, rfl, rfl, trivial⟩)).step rfl (nth_get rfl) hk rfl rfl rfl
              clear hm hav
              replace hcl := hcl2
              refine phaseE (vals := [some (fnv 41 [] []), some (.slice A3637 rw3639.length c3638), some (.int .i64 p3905), some (.int .i64 c_3910), some (.int .i64 (w64 (p3905 - c_3910))), some (slp A3637 (Int.toNat (w64 (p3905 - c_3910)) * 2)), some (.agg ⟨[.int .i64 ((rd data3635 (w64 (p3905 - c_3910))).often_), .slice A3913 ((rd data3635 (w64 (p3905 - c_3910))).symbols_).length c3914]⟩), some (.slice A3637 rw3639.length c3638), some (.int .i64 c_3910), some (slp A3637 (Int.toNat c_3910 * 2)), some (.agg ⟨[.int .i64 ((rd data3635 c_3910).often_), .slice A3920 ((rd data3635 c_3910).symbols_).length c3921]⟩), some (.int .i64 x3925), some (.bool (decide (x3925 < (0 : Int)))), some (.bool (!(decide (x3925 < (0 : Int)))))]) [11, 0, 6, 10, 5, 9, 1, 4, 7, 8, 2, 3] [12, 13] rfl rfl rfl (by exact ⟨nR rfl rfl rfl rfl rfl (by exact ovE (bin rfl rfl rfl) rfl), nR rfl rfl rfl rfl rfl (by exact ovE (un rfl rfl) rfl), trivial⟩) (fun a w hS => ?_) ho hcl hmust hA hst
              replace hS := hS.env2 (e' := [(0, .slice A3637 rw3639.length c3638), (1, .int .i64 a_3643), (2, .int .i64 m3644), (3, .int .i64 b_3645), (4, fnv 41 [] []), (18, .int .i64 mid3898), (19, .int .i64 n_3899), (20, .int .i64 start3906), (21, .int .i64 r3907), (22, .int .i64 p3905), (23, .int .i64 c_3910), (171, .bool (!(decide (x3925 < (0 : Int)))))]) ⟨rfl, rfl, rfl, rfl, rfl, rfl, rfl, rfl, rfl, rfl, rfl, rfl, trivial⟩
              refine then_n ?_
              refine s_cond hS rfl hM (fun hb3926 hM => ?_) (fun hb3926 hM => ?_)
              · refine wp_region_list ?_
                refine st1 hS (mv rfl) rfl fun a w hS => ?_
                refine st1 hS (bin rfl rfl rfl) rfl fun a w hS => ?_
                refine st1x (v := Value.int .i64) hS (asg rfl) rfl fun start3927 a w hz hS => ?_
                have hM := lt_to hz hM; clear hz
                refine wpList_nil ?_
                refine blk_n (then_n ?_)
                exact hJ3928 _ _ ⟨start3927, r3907, hS.to [0, 1] (by kernel_rfl) ⟨rfl, rfl, rfl, rfl, rfl, rfl, rfl, rfl, rfl, rfl, trivial⟩, hM⟩
              · refine wp_region_list ?_
                refine st1 hS (mv rfl) rfl fun a w hS => ?_
                refine st1 hS (asg rfl) rfl fun a w hS => ?_
                refine wpList_nil ?_
                refine blk_n (then_n ?_)
                exact hJ3928 _ _ ⟨start3906, c_3910, hS.to [0, 1] (by kernel_rfl) ⟨rfl, rfl, rfl, rfl, rfl, rfl, rfl, rfl, rfl, rfl, trivial⟩, hM⟩
            · refine wp_exit ?_
              refine then_ex (then_ex (blk_same (then_n ?_)))
              exact hJ3930 _ _ ⟨start3906, hS.to [0, 1] (by kernel_rfl) ⟨rfl, rfl, rfl, rfl, rfl, rfl, rfl, rfl, trivial⟩, hM⟩
        · intro a w hI
          obtain ⟨start3929, hS, hM⟩ := hI
          rw [slices_symMergeCmpFunc_huff_packet__b6e1_b35e.j11] at hM
          refine wp_seq ?_
          refine wp_region_list ?_
          refine st1 hS (mv rfl) rfl fun a w hS => ?_
          refine st1 hS (mv rfl) rfl fun a w hS => ?_
          refine st1 hS (bin rfl rfl rfl) rfl fun a w hS => ?_
          refine st1x (v := Value.int .i64) hS (asg rfl) rfl fun end_3931 a w hz hS => ?_
          have hM := lt_to hz hM; clear hz
          refine wpList_nil ?_
          refine then_n ?_
          refine seq_joinJ (fun a w => ∃ (rw3940 : List (Row 2)) (data3941 : (List T_huff_packet)) (f3942 : Frag), Ss 220 [] [(0, .slice A3637 rw3940.length c3638), (1, .int .i64 a_3643), (3, .int .i64 b_3645), (4, fnv 41 [] []), (18, .int .i64 mid3898), (20, .int .i64 start3929), (24, .int .i64 end_3931)] H [p3636, f3942] F a w ∧ (Vec 70 (Row.v (sz := 2)) 2 A3637 rw3940 c3638 f3942) ∧ (RelL (R_huff_packet p3636) data3941 rw3940) ∧ (rw3940.length = rw3639.length) ∧ (slices_symMergeCmpFunc_huff_packet__b6e1_b35e.j12 K (slices_symMergeCmpFunc_huff_packet__b6e1_b35e.r K d) a_3643 b_3645 mid3898 start3929 end_3931 data3941).wp kr kp) (fun J3946 hJ3946 => ?_) ?_
          · refine wp_seq ?_
            refine wp_region_list ?_
            refine st1 hS (mv rfl) rfl fun a w hS => ?_
            refine st1 hS (mv rfl) rfl fun a w hS => ?_
            refine st1 hS (bin rfl rfl rfl) rfl fun a w hS => ?_
            refine st1 hS (mv rfl) rfl fun a w hS => ?_
            refine g_op 3 true 181 (b := (decide (start3929 < m3644))) (r := (decide (m3644 < end_3931))) hS rfl rfl rfl rfl rfl rfl rfl (fun hb a w hS K hK => ?_) rfl fun a w hS => ?_
            · refine st1g hS rfl rfl rfl hb (mv rfl) rfl fun a w hS => ?_
              refine st1g hS rfl rfl rfl hb (mv rfl) rfl fun a w hS => ?_
              refine st1g hS rfl rfl rfl hb (bin rfl rfl rfl) rfl fun a w hS => ?_
              exact wpList_nil (hK _ _ (hS.up 3 rfl rfl))
            refine wpList_nil ?_
            refine then_n ?_
            refine s_cond hS rfl hM (fun hb3932 hM => ?_) (fun hb3932 hM => ?_)
            · refine wp_region_list ?_
              refine st1 hS (mv rfl) rfl fun a w hS => ?_
              refine st1 hS (mv rfl) rfl fun a w hS => ?_
              refine st1 hS (mv rfl) rfl fun a w hS => ?_
              refine st1 hS (mv rfl) rfl fun a w hS => ?_
              refine st1 hS (mv rfl) rfl fun a w hS => ?_
              refine s_call hS rfl Try.call47 (slices_rotateCmpFunc_huff_packet__b6e1_b35e_c hG K data3635 start3929 m3644 end_3931 p3636 A3637 c3638 rw3639 f3641 hr3640 hV3642 (hS.st.part 2 [0, 1] (by kernel_rfl)) (wp_bind hM) (fun rw3933 data3934 f3935 w hM h3936 h3937 h3938 hst => s_back hS.ev hst.appF rfl fun hS => ?_))
              replace hS : Ss _ _ _ H [p3636, f3935] F _ _ := hS
              have hz3939 := Eq.trans h3938 hz3647
              replace hS := hS.re 0 (u := .slice A3637 rw3639.length c3638) (v := .slice A3637 rw3933.length c3638) rfl (by rw [h3938])
              replace hS := hS.re 186 (u := .slice A3637 rw3639.length c3638) (v := .slice A3637 rw3933.length c3638) rfl (by rw [h3938])
              refine wpList_nil ?_
              refine then_n ?_
              exact hJ3946 _ _ ⟨rw3933, data3934, f3935, hS.to [0, 1] (by kernel_rfl) ⟨rfl, rfl, rfl, rfl, rfl, rfl, rfl, trivial⟩, h3936, h3937, hz3939, hM⟩
            · refine wp_skip ?_
              refine then_n ?_
              exact hJ3946 _ _ ⟨rw3639, data3635, f3641, hS.to [0, 1] (by kernel_rfl) ⟨rfl, rfl, rfl, rfl, rfl, rfl, rfl, trivial⟩, hV3642, hr3640, hz3647, hM⟩
          · intro a w hI
            obtain ⟨rw3940, data3941, f3942, hS, hV3943, hr3944, hz3945, hM⟩ := hI
            rw [slices_symMergeCmpFunc_huff_packet__b6e1_b35e.j12] at hM
            refine seq_joinJ (fun a w => ∃ (rw3955 : List (Row 2)) (data3956 : (List T_huff_packet)) (f3957 : Frag), Ss 220 [] [(0, .slice A3637 rw3955.length c3638), (3, .int .i64 b_3645), (4, fnv 41 [] []), (18, .int .i64 mid3898), (24, .int .i64 end_3931)] H [p3636, f3957] F a w ∧ (Vec 70 (Row.v (sz := 2)) 2 A3637 rw3955 c3638 f3957) ∧ (RelL (R_huff_packet p3636) data3956 rw3955) ∧ (rw3955.length = rw3639.length) ∧ (slices_symMergeCmpFunc_huff_packet__b6e1_b35e.j13 K (slices_symMergeCmpFunc_huff_packet__b6e1_b35e.r K d) b_3645 mid3898 end_3931 data3956).wp kr kp) (fun J3961 hJ3961 => ?_) ?_
            · refine wp_seq ?_
              refine wp_region_list ?_
              refine st1 hS (mv rfl) rfl fun a w hS => ?_
              refine st1 hS (mv rfl) rfl fun a w hS => ?_
              refine st1 hS (bin rfl rfl rfl) rfl fun a w hS => ?_
              refine st1 hS (mv rfl) rfl fun a w hS => ?_
              refine g_op 3 true 195 (b := (decide (a_3643 < start3929))) (r := (decide (start3929 < mid3898))) hS rfl rfl rfl rfl rfl rfl rfl (fun hb a w hS K hK => ?_) rfl fun a w hS => ?_
              · refine st1g hS rfl rfl rfl hb (mv rfl) rfl fun a w hS => ?_
                refine st1g hS rfl rfl rfl hb (mv rfl) rfl fun a w hS => ?_
                refine st1g hS rfl rfl rfl hb (bin rfl rfl rfl) rfl fun a w hS => ?_
                exact wpList_nil (hK _ _ (hS.up 3 rfl rfl))
              refine wpList_nil ?_
              refine then_n ?_
              refine s_cond hS rfl hM (fun hb3947 hM => ?_) (fun hb3947 hM => ?_)
              · refine wp_region_list ?_
                refine st1 hS (mv rfl) rfl fun a w hS => ?_
                refine st1 hS (mv rfl) rfl fun a w hS => ?_
                refine st1 hS (mv rfl) rfl fun a w hS => ?_
                refine st1 hS (mv rfl) rfl fun a w hS => ?_
                refine st1 hS (mv rfl) rfl fun a w hS => ?_
                refine s_call hS rfl Try.call44 (ih hG  data3941 a_3643 start3929 mid3898 p3636 A3637 c3638 rw3940 f3942 hr3944 hV3943 (hS.st.part 2 [0, 1] (by kernel_rfl)) (wp_bind hM) (fun rw3948 data3949 f3950 w hM h3951 h3952 h3953 hst => s_back hS.ev hst.appF rfl fun hS => ?_))
                replace hS : Ss _ _ _ H [p3636, f3950] F _ _ := hS
                have hz3954 := Eq.trans h3953 hz3945
                replace hS := hS.re 0 (u := .slice A3637 rw3940.length c3638) (v := .slice A3637 rw3948.length c3638) rfl (by rw [h3953])
                replace hS := hS.re 200 (u := .slice A3637 rw3940.length c3638) (v := .slice A3637 rw3948.length c3638) rfl (by rw [h3953])
                refine wpList_nil ?_
                refine then_n ?_
                exact hJ3961 _ _ ⟨rw3948, data3949, f3950, hS.to [0, 1] (by kernel_rfl) ⟨rfl, rfl, rfl, rfl, rfl, trivial⟩, h3951, h3952, hz3954, hM⟩
              · refine wp_skip ?_
                refine then_n ?_
                exact hJ3961 _ _ ⟨rw3940, data3941, f3942, hS.to [0, 1] (by kernel_rfl) ⟨rfl, rfl, rfl, rfl, rfl, trivial⟩, hV3943, hr3944, hz3945, hM⟩
            · intro a w hI
              obtain ⟨rw3955, data3956, f3957, hS, hV3958, hr3959, hz3960, hM⟩ := hI
              rw [slices_symMergeCmpFunc_huff_packet__b6e1_b35e.j13] at hM
              refine wp_seq ?_
              refine wp_region_list ?_
              refine st1 hS (mv rfl) rfl fun a w hS => ?_
              refine st1 hS (mv rfl) rfl fun a w hS => ?_
              refine st1 hS (bin rfl rfl rfl) rfl fun a w hS => ?_
              refine st1 hS (mv rfl) rfl fun a w hS => ?_
              refine g_op 3 true 209 (b := (decide (mid3898 < end_3931))) (r := (decide (end_3931 < b_3645))) hS rfl rfl rfl rfl rfl rfl rfl (fun hb a w hS K hK => ?_) rfl fun a w hS => ?_
              · refine st1g hS rfl rfl rfl hb (mv rfl) rfl fun a w hS => ?_
                refine st1g hS rfl rfl rfl hb (mv rfl) rfl fun a w hS => ?_
                refine st1g hS rfl rfl rfl hb (bin rfl rfl rfl) rfl fun a w hS => ?_
                exact wpList_nil (hK _ _ (hS.up 3 rfl rfl))
              refine wpList_nil ?_
              refine then_n ?_
              refine s_cond hS rfl hM (fun hb3962 hM => ?_) (fun hb3962 hM => ?_)
              · refine wp_region_list ?_
                refine st1 hS (mv rfl) rfl fun a w hS => ?_
                refine st1 hS (mv rfl) rfl fun a w hS => ?_
                refine st1 hS (mv rfl) rfl fun a w hS => ?_
                refine st1 hS (mv rfl) rfl fun a w hS => ?_
                refine st1 hS (mv rfl) rfl fun a w hS => ?_
                refine s_call hS rfl Try.call44 (ih hG  data3956 mid3898 end_3931 b_3645 p3636 A3637 c3638 rw3955 f3957 hr3959 hV3958 (hS.st.part 2 [0, 1] (by kernel_rfl)) (wp_bind hM) (fun rw3963 data3964 f3965 w hM h3966 h3967 h3968 hst => s_back hS.ev hst.appF rfl fun hS => ?_))
                replace hS : Ss _ _ _ H [p3636, f3965] F _ _ := hS
                have hz3969 := Eq.trans h3968 hz3960
                replace hS := hS.re 0 (u := .slice A3637 rw3955.length c3638) (v := .slice A3637 rw3963.length c3638) rfl (by rw [h3968])
                replace hS := hS.re 214 (u := .slice A3637 rw3955.length c3638) (v := .slice A3637 rw3963.length c3638) rfl (by rw [h3968])
                refine wpList_nil ?_
                exact s_end (rs := []) hS rfl rfl (hret rw3963 data3964 f3965 w hM h3966 h3967 hz3969 (hS.st.pick [0, 1] (by kernel_rfl)))
              · refine wp_skip ?_
                exact s_end (rs := []) hS rfl rfl (hret rw3955 data3956 f3957 w hM hV3958 hr3959 hz3960 (hS.st.pick [0, 1] (by kernel_rfl)))

theorem slices_symMergeCmpFunc_huff_packet__b6e1_b35e_c {H : Imm} {F : List Frag} {w : World} {R : Ending → World → Prop} {kr : (List T_huff_packet) → Prop} {kp : Value → Prop} (hG : Gl H) (K : Nat) (data3635 : List T_huff_packet) (a_3643 : Int) (m3644 : Int) (b_3645 : Int) (p3636 : Frag) (A3637 : Option Addr) (c3638 : Nat) (rw3639 : List (Row 2)) (f3641 : Frag) (hr3640 : RelL (R_huff_packet p3636) data3635 rw3639) (hV3642 : Vec 70 (Row.v (sz := 2)) 2 A3637 rw3639 c3638 f3641)
    (hS : St w H [p3636, f3641] F) (hm : (slices_symMergeCmpFunc_huff_packet__b6e1_b35e.m K data3635 a_3643 m3644 b_3645).wp kr kp)
    (hret : ∀ (rw3970 : List (Row 2)) (data3971 : (List T_huff_packet)) (f3972 : Frag) (w : World), kr data3971 → (Vec 70 (Row.v (sz := 2)) 2 A3637 rw3970 c3638 f3972) → (RelL (R_huff_packet p3636) data3971 rw3970) → (rw3970.length = rw3639.length) → St w H [p3636, f3972] F → R (.returned (.tuple ⟨[]⟩)) w) :
    Calls Try.prog 44 ⟨[.slice A3637 rw3639.length c3638, .int .i64 a_3643, .int .i64 m3644, .int .i64 b_3645, fnv 41 [] []]⟩ w R := slices_symMergeCmpFunc_huff_packet__b6e1_b35e_cr K K hG data3635 a_3643 m3644 b_3645 p3636 A3637 c3638 rw3639 f3641 hr3640 hV3642 hS hm hret

theorem slices_stableCmpFunc_huff_packet__b6e1_c92d_c {H : Imm} {F : List Frag} {w : World} {R : Ending → World → Prop} {kr : (List T_huff_packet) → Prop} {kp : Value → Prop} (hG : Gl H) (K : Nat) (data2703 : List T_huff_packet) (n_2711 : Int) (p2704 : Frag) (A2705 : Option Addr) (c2706 : Nat) (rw2707 : List (Row 2)) (f2709 : Frag) (hr2708 : RelL (R_huff_packet p2704) data2703 rw2707) (hV2710 : Vec 70 (Row.v (sz := 2)) 2 A2705 rw2707 c2706 f2709)
    (hS : St w H [p2704, f2709] F) (hm : (slices_stableCmpFunc_huff_packet__b6e1_c92d.m K data2703 n_2711).wp kr kp)
    (hret : ∀ (rw4106 : List (Row 2)) (data4107 : (List T_huff_packet)) (f4108 : Frag) (w : World), kr data4107 → (Vec 70 (Row.v (sz := 2)) 2 A2705 rw4106 c2706 f4108) → (RelL (R_huff_packet p2704) data4107 rw4106) → (rw4106.length = rw2707.length) → St w H [p2704, f4108] F → R (.returned (.tuple ⟨[]⟩)) w) :
    Calls Try.prog 38 ⟨[.slice A2705 rw2707.length c2706, .int .i64 n_2711, fnv 41 [] []]⟩ w R := by
  refine enter Try.func38 rfl Try.ntmps38 rfl hS fun a w hS => ?_
  have hM := hm; clear hm
  rw [slices_stableCmpFunc_huff_packet__b6e1_c92d.m] at hM
  have hs2712 : ∀ q ∈ p2704, q ∈ p2704 := fun _ h => h
  have hz2713 : rw2707.length = rw2707.length := rfl
  refine wp_seq ?_
  refine wp_region_list ?_
  refine st1 hS (asg rfl) rfl fun a w hS => ?_
  refine wpList_nil ?_
  refine then_n ?_
  refine wp_seq ?_
  refine wp_region_list ?_
  refine st1 hS (mv rfl) rfl fun a w hS => ?_
  refine st1 hS (asg rfl) rfl fun a w hS => ?_
  refine st1 hS (asg rfl) rfl fun a w hS => ?_
  refine wpList_nil ?_
  refine then_n ?_
  refine seq_joinJ (fun a w => ∃ (rw3082 : List (Row 2)) (data3083 : (List T_huff_packet)) (f3084 : Frag) (a_3088 : Int), Ss 63 [] [(0, .slice A2705 rw3082.length c2706), (1, .int .i64 n_2711), (2, fnv 41 [] []), (6, .int .i64 (20 : Int)), (7, .int .i64 a_3088)] H [p2704, f3084] F a w ∧ (Vec 70 (Row.v (sz := 2)) 2 A2705 rw3082 c2706 f3084) ∧ (RelL (R_huff_packet p2704) data3083 rw3082) ∧ (rw3082.length = rw2707.length) ∧ (slices_stableCmpFunc_huff_packet__b6e1_c92d.j2 K n_2711 data3083 a_3088).wp kr kp) (fun J3089 hJ3089 => ?_) ?_
  · refine wp_block ?_
    refine s_loopJ (fun k3071 a w => ∃ (rw3063 : List (Row 2)) (data3064 : (List T_huff_packet)) (f3065 : Frag) (a_3069 : Int) (b_3070 : Int), Ss 63 [] [(0, .slice A2705 rw3063.length c2706), (1, .int .i64 n_2711), (2, fnv 41 [] []), (6, .int .i64 (20 : Int)), (7, .int .i64 a_3069), (8, .int .i64 b_3070)] H [p2704, f3065] F a w ∧ (Vec 70 (Row.v (sz := 2)) 2 A2705 rw3063 c2706 f3065) ∧ (RelL (R_huff_packet p2704) data3064 rw3063) ∧ (rw3063.length = rw2707.length) ∧ (slices_stableCmpFunc_huff_packet__b6e1_c92d.l1 K n_2711 k3071 data3064 a_3069 b_3070).wp kr kp) K ?_ ?_ ?_
    · exact ⟨rw2707, data2703, f2709, (0 : Int), (20 : Int), hS.to [0, 1] (by kernel_rfl) ⟨rfl, rfl, rfl, rfl, rfl, rfl, trivial⟩, hV2710, hr2708, hz2713, hM⟩
    · intro a w hI; obtain ⟨_, _, _, _, _, _, _, _, _, hM⟩ := hI; exact hM
    · intro k3071 a w hI J3081 hJ3081
      obtain ⟨rw3063, data3064, f3065, a_3069, b_3070, hS, hV3066, hr3067, hz3068, hM⟩ := hI
      rw [slices_stableCmpFunc_huff_packet__b6e1_c92d.l1] at hM
      refine wp_seq ?_
      refine wp_seq ?_
      refine wp_region_list ?_
      refine st1 hS (mv rfl) rfl fun a w hS => ?_
      refine st1 hS (mv rfl) rfl fun a w hS => ?_
      refine st1 hS (bin rfl rfl rfl) rfl fun a w hS => ?_
      refine wpList_nil ?_
      refine then_n ?_
      refine s_cond hS rfl hM (fun hb3072 hM => ?_) (fun hb3072 hM => ?_)
      · refine wp_skip ?_
        refine then_n ?_
        refine wp_block ?_
        refine wp_seq ?_
        refine wp_region_list ?_
        refine st1 hS (mv rfl) rfl fun a w hS => ?_
        refine st1 hS (mv rfl) rfl fun a w hS => ?_
        refine st1 hS (mv rfl) rfl fun a w hS => ?_
        refine st1 hS (mv rfl) rfl fun a w hS => ?_
        refine s_call hS rfl Try.call43 (slices_insertionSortCmpFunc_huff_packet__b6e1_dee5_c hG K data3064 a_3069 b_3070 p2704 A2705 c2706 rw3063 f3065 hr3067 hV3066 (hS.st.part 2 [0, 1] (by kernel_rfl)) (wp_bind hM) (fun rw3073 data3074 f3075 w hM h3076 h3077 h3078 hst => s_back hS.ev hst.appF rfl fun hS => ?_))
        replace hS : Ss _ _ _ H [p2704, f3075] F _ _ := hS
        have hz3079 := Eq.trans h3078 hz3068
        replace hS := hS.re 0 (u := .slice A2705 rw3063.length c2706) (v := .slice A2705 rw3073.length c2706) rfl (by rw [h3078])
        replace hS := hS.re 14 (u := .slice A2705 rw3063.length c2706) (v := .slice A2705 rw3073.length c2706) rfl (by rw [h3078])
        refine wpList_nil ?_
        refine then_n ?_
        refine wp_seq ?_
        refine wp_region_list ?_
        refine st1 hS (mv rfl) rfl fun a w hS => ?_
        refine st1 hS (asg rfl) rfl fun a w hS => ?_
        refine wpList_nil ?_
        refine then_n ?_
        refine wp_region_list ?_
        refine st1 hS (mv rfl) rfl fun a w hS => ?_
        refine st1 hS (mv rfl) rfl fun a w hS => ?_
        refine st1 hS (bin rfl rfl rfl) rfl fun a w hS => ?_
        refine st1x (v := Value.int .i64) hS (asg rfl) rfl fun b_3080 a w hz hS => ?_
        have hM := lt_to hz hM; clear hz
        refine wpList_nil ?_
        refine blk_n (then_n ?_)
        exact hJ3081 _ _ ⟨rw3073, data3074, f3075, b_3070, b_3080, hS.to [0, 1] (by kernel_rfl) ⟨rfl, rfl, rfl, rfl, rfl, rfl, trivial⟩, h3076, h3077, hz3079, hM⟩
      · refine wp_exit ?_
        refine then_ex (then_ex (blk_same (then_n ?_)))
        exact hJ3089 _ _ ⟨rw3063, data3064, f3065, a_3069, hS.to [0, 1] (by kernel_rfl) ⟨rfl, rfl, rfl, rfl, rfl, trivial⟩, hV3066, hr3067, hz3068, hM⟩
  · intro a w hI
    obtain ⟨rw3082, data3083, f3084, a_3088, hS, hV3085, hr3086, hz3087, hM⟩ := hI
    rw [slices_stableCmpFunc_huff_packet__b6e1_c92d.j2] at hM
    refine wp_seq ?_
    refine wp_region_list ?_
    refine st1 hS (mv rfl) rfl fun a w hS => ?_
    refine st1 hS (mv rfl) rfl fun a w hS => ?_
    refine st1 hS (mv rfl) rfl fun a w hS => ?_
    refine st1 hS (mv rfl) rfl fun a w hS => ?_
    refine s_call hS rfl Try.call43 (slices_insertionSortCmpFunc_huff_packet__b6e1_dee5_c hG K data3083 a_3088 n_2711 p2704 A2705 c2706 rw3082 f3084 hr3086 hV3085 (hS.st.part 2 [0, 1] (by kernel_rfl)) (wp_bind hM) (fun rw3090 data3091 f3092 w hM h3093 h3094 h3095 hst => s_back hS.ev hst.appF rfl fun hS => ?_))
    replace hS : Ss _ _ _ H [p2704, f3092] F _ _ := hS
    have hz3096 := Eq.trans h3095 hz3087
    replace hS := hS.re 0 (u := .slice A2705 rw3082.length c2706) (v := .slice A2705 rw3090.length c2706) rfl (by rw [h3095])
    replace hS := hS.re 23 (u := .slice A2705 rw3082.length c2706) (v := .slice A2705 rw3090.length c2706) rfl (by rw [h3095])
    refine wpList_nil ?_
    refine then_n ?_
    refine wp_block ?_
    refine s_loopJ (fun k4044 a w => ∃ (rw4037 : List (Row 2)) (data4038 : (List T_huff_packet)) (f4039 : Frag) (blockSize4043 : Int), Ss 63 [] [(0, .slice A2705 rw4037.length c2706), (1, .int .i64 n_2711), (2, fnv 41 [] []), (6, .int .i64 blockSize4043)] H [p2704, f4039] F a w ∧ (Vec 70 (Row.v (sz := 2)) 2 A2705 rw4037 c2706 f4039) ∧ (RelL (R_huff_packet p2704) data4038 rw4037) ∧ (rw4037.length = rw2707.length) ∧ (slices_stableCmpFunc_huff_packet__b6e1_c92d.l3 K n_2711 k4044 data4038 blockSize4043).wp kr kp) K ?_ ?_ ?_
    · exact ⟨rw3090, data3091, f3092, (20 : Int), hS.to [0, 1] (by kernel_rfl) ⟨rfl, rfl, rfl, rfl, trivial⟩, h3093, h3094, hz3096, hM⟩
    · intro a w hI; obtain ⟨_, _, _, _, _, _, _, _, hM⟩ := hI; exact hM
    · intro k4044 a w hI J4105 hJ4105
      obtain ⟨rw4037, data4038, f4039, blockSize4043, hS, hV4040, hr4041, hz4042, hM⟩ := hI
      rw [slices_stableCmpFunc_huff_packet__b6e1_c92d.l3] at hM
      refine wp_seq ?_
      refine wp_seq ?_
      refine wp_region_list ?_
      refine st1 hS (mv rfl) rfl fun a w hS => ?_
      refine st1 hS (mv rfl) rfl fun a w hS => ?_
      refine st1 hS (bin rfl rfl rfl) rfl fun a w hS => ?_
      refine wpList_nil ?_
      refine then_n ?_
      refine s_cond hS rfl hM (fun hb4045 hM => ?_) (fun hb4045 hM => ?_)
      · refine wp_skip ?_
        refine then_n ?_
        refine wp_block ?_
        refine wp_seq ?_
        refine wp_region_list ?_
        refine st1 hS (mv rfl) rfl fun a w hS => ?_
        refine st1 hS (bin rfl rfl rfl) rfl fun a w hS => ?_
        refine st1 hS (asg rfl) rfl fun a w hS => ?_
        refine st1x (v := Value.int .i64) hS (asg rfl) rfl fun b_4046 a w hz hS => ?_
        have hM := lt_to hz hM; clear hz
        refine wpList_nil ?_
        refine then_n ?_
        refine seq_joinJ (fun a w => ∃ (rw4086 : List (Row 2)) (data4087 : (List T_huff_packet)) (f4088 : Frag) (a_4092 : Int), Ss 63 [] [(0, .slice A2705 rw4086.length c2706), (1, .int .i64 n_2711), (2, fnv 41 [] []), (6, .int .i64 blockSize4043), (7, .int .i64 a_4092)] H [p2704, f4088] F a w ∧ (Vec 70 (Row.v (sz := 2)) 2 A2705 rw4086 c2706 f4088) ∧ (RelL (R_huff_packet p2704) data4087 rw4086) ∧ (rw4086.length = rw2707.length) ∧ (slices_stableCmpFunc_huff_packet__b6e1_c92d.j5 K (slices_stableCmpFunc_huff_packet__b6e1_c92d.l3 K n_2711 k4044) n_2711 blockSize4043 data4087 a_4092).wp kr kp) (fun J4093 hJ4093 => ?_) ?_
        · refine wp_block ?_
          refine s_loopJ (fun k4075 a w => ∃ (rw4067 : List (Row 2)) (data4068 : (List T_huff_packet)) (f4069 : Frag) (a_4073 : Int) (b_4074 : Int), Ss 63 [] [(0, .slice A2705 rw4067.length c2706), (1, .int .i64 n_2711), (2, fnv 41 [] []), (6, .int .i64 blockSize4043), (7, .int .i64 a_4073), (8, .int .i64 b_4074)] H [p2704, f4069] F a w ∧ (Vec 70 (Row.v (sz := 2)) 2 A2705 rw4067 c2706 f4069) ∧ (RelL (R_huff_packet p2704) data4068 rw4067) ∧ (rw4067.length = rw2707.length) ∧ (slices_stableCmpFunc_huff_packet__b6e1_c92d.l4 K (slices_stableCmpFunc_huff_packet__b6e1_c92d.l3 K n_2711 k4044) n_2711 blockSize4043 k4075 data4068 a_4073 b_4074).wp kr kp) K ?_ ?_ ?_
          · exact ⟨rw4037, data4038, f4039, (0 : Int), b_4046, hS.to [0, 1] (by kernel_rfl) ⟨rfl, rfl, rfl, rfl, rfl, rfl, trivial⟩, hV4040, hr4041, hz4042, hM⟩
          · intro a w hI; obtain ⟨_, _, _, _, _, _, _, _, _, hM⟩ := hI; exact hM
          · intro k4075 a w hI J4085 hJ4085
            obtain ⟨rw4067, data4068, f4069, a_4073, b_4074, hS, hV4070, hr4071, hz4072, hM⟩ := hI
            rw [slices_stableCmpFunc_huff_packet__b6e1_c92d.l4] at hM
            refine wp_seq ?_
            refine wp_seq ?_
            refine wp_region_list ?_
            refine st1 hS (mv rfl) rfl fun a w hS => ?_
            refine st1 hS (mv rfl) rfl fun a w hS => ?_
            refine st1 hS (bin rfl rfl rfl) rfl fun a w hS => ?_
            refine wpList_nil ?_
            refine then_n ?_
            refine s_cond hS rfl hM (fun hb4076 hM => ?_) (fun hb4076 hM => ?_)
            · refine wp_skip ?_
              refine then_n ?_
              refine wp_block ?_
              refine wp_seq ?_
              refine wp_region_list ?_
              refine st1 hS (mv rfl) rfl fun a w hS => ?_
              refine st1 hS (mv rfl) rfl fun a w hS => ?_
              refine st1 hS (mv rfl) rfl fun a w hS => ?_
              refine st1 hS (mv rfl) rfl fun a w hS => ?_
              refine st1 hS (bin rfl rfl rfl) rfl fun a w hS => ?_
              refine st1 hS (mv rfl) rfl fun a w hS => ?_
              refine st1 hS (mv rfl) rfl fun a w hS => ?_
              refine s_call hS rfl Try.call44 (slices_symMergeCmpFunc_huff_packet__b6e1_b35e_c hG K data4068 a_4073 (w64 (a_4073 + blockSize4043)) b_4074 p2704 A2705 c2706 rw4067 f4069 hr4071 hV4070 (hS.st.part 2 [0, 1] (by kernel_rfl)) (wp_bind hM) (fun rw4077 data4078 f4079 w hM h4080 h4081 h4082 hst => s_back hS.ev hst.appF rfl fun hS => ?_))
              replace hS : Ss _ _ _ H [p2704, f4079] F _ _ := hS
              have hz4083 := Eq.trans h4082 hz4072
              replace hS := hS.re 0 (u := .slice A2705 rw4067.length c2706) (v := .slice A2705 rw4077.length c2706) rfl (by rw [h4082])
              replace hS := hS.re 36 (u := .slice A2705 rw4067.length c2706) (v := .slice A2705 rw4077.length c2706) rfl (by rw [h4082])
              refine wpList_nil ?_
              refine then_n ?_
              refine wp_seq ?_
              refine wp_region_list ?_
              refine st1 hS (mv rfl) rfl fun a w hS => ?_
              refine st1 hS (asg rfl) rfl fun a w hS => ?_
              refine wpList_nil ?_
              refine then_n ?_
              refine wp_region_list ?_
              refine st1 hS (mv rfl) rfl fun a w hS => ?_
              refine st1 hS (mv rfl) rfl fun a w hS => ?_
              refine st1 hS (bin rfl rfl rfl) rfl fun a w hS => ?_
              refine st1 hS (bin rfl rfl rfl) rfl fun a w hS => ?_
              refine st1x (v := Value.int .i64) hS (asg rfl) rfl fun b_4084 a w hz hS => ?_
              have hM := lt_to hz hM; clear hz
              refine wpList_nil ?_
              refine blk_n (then_n ?_)
              exact hJ4085 _ _ ⟨rw4077, data4078, f4079, b_4074, b_4084, hS.to [0, 1] (by kernel_rfl) ⟨rfl, rfl, rfl, rfl, rfl, rfl, trivial⟩, h4080, h4081, hz4083, hM⟩
            · refine wp_exit ?_
              refine then_ex (then_ex (blk_same (then_n ?_)))
              exact hJ4093 _ _ ⟨rw4067, data4068, f4069, a_4073, hS.to [0, 1] (by kernel_rfl) ⟨rfl, rfl, rfl, rfl, rfl, trivial⟩, hV4070, hr4071, hz4072, hM⟩
        · intro a w hI
          obtain ⟨rw4086, data4087, f4088, a_4092, hS, hV4089, hr4090, hz4091, hM⟩ := hI
          rw [slices_stableCmpFunc_huff_packet__b6e1_c92d.j5] at hM
          refine wp_seq ?_
          refine wp_seq ?_
          refine wp_region_list ?_
          refine st1 hS (mv rfl) rfl fun a w hS => ?_
          refine st1 hS (mv rfl) rfl fun a w hS => ?_
          refine st1 hS (bin rfl rfl rfl) rfl fun a w hS => ?_
          refine st1x (v := Value.int .i64) hS (asg rfl) rfl fun m4094 a w hz hS => ?_
          have hM := lt_to hz hM; clear hz
          refine wpList_nil ?_
          refine then_n ?_
          refine wp_seq ?_
          refine wp_region_list ?_
          refine st1 hS (mv rfl) rfl fun a w hS => ?_
          refine st1 hS (mv rfl) rfl fun a w hS => ?_
          refine st1 hS (bin rfl rfl rfl) rfl fun a w hS => ?_
          refine wpList_nil ?_
          refine then_n ?_
          refine s_cond hS rfl hM (fun hb4095 hM => ?_) (fun hb4095 hM => ?_)
          · refine wp_region_list ?_
            refine st1 hS (mv rfl) rfl fun a w hS => ?_
            refine st1 hS (mv rfl) rfl fun a w hS => ?_
            refine st1 hS (mv rfl) rfl fun a w hS => ?_
            refine st1 hS (mv rfl) rfl fun a w hS => ?_
            refine st1 hS (mv rfl) rfl fun a w hS => ?_
            refine s_call hS rfl Try.call44 (slices_symMergeCmpFunc_huff_packet__b6e1_b35e_c hG K data4087 a_4092 m4094 n_2711 p2704 A2705 c2706 rw4086 f4088 hr4090 hV4089 (hS.st.part 2 [0, 1] (by kernel_rfl)) (wp_bind hM) (fun rw4096 data4097 f4098 w hM h4099 h4100 h4101 hst => s_back hS.ev hst.appF rfl fun hS => ?_))
            replace hS : Ss _ _ _ H [p2704, f4098] F _ _ := hS
            have hz4102 := Eq.trans h4101 hz4091
            replace hS := hS.re 0 (u := .slice A2705 rw4086.length c2706) (v := .slice A2705 rw4096.length c2706) rfl (by rw [h4101])
            replace hS := hS.re 55 (u := .slice A2705 rw4086.length c2706) (v := .slice A2705 rw4096.length c2706) rfl (by rw [h4101])
            refine wpList_nil ?_
            refine then_n ?_
            refine wp_region_list ?_
            refine st1 hS (mv rfl) rfl fun a w hS => ?_
            refine st1 hS (bin rfl rfl rfl) rfl fun a w hS => ?_
            refine st1x (v := Value.int .i64) hS (asg rfl) rfl fun blockSize4103 a w hz hS => ?_
            have hM := lt_to hz hM; clear hz
            refine wpList_nil ?_
            refine blk_n (then_n ?_)
            exact hJ4105 _ _ ⟨rw4096, data4097, f4098, blockSize4103, hS.to [0, 1] (by kernel_rfl) ⟨rfl, rfl, rfl, rfl, trivial⟩, h4099, h4100, hz4102, hM⟩
          · refine wp_skip ?_
            refine then_n ?_
            refine wp_region_list ?_
            refine st1 hS (mv rfl) rfl fun a w hS => ?_
            refine st1 hS (bin rfl rfl rfl) rfl fun a w hS => ?_
            refine st1x (v := Value.int .i64) hS (asg rfl) rfl fun blockSize4104 a w hz hS => ?_
            have hM := lt_to hz hM; clear hz
            refine wpList_nil ?_
            refine blk_n (then_n ?_)
            exact hJ4105 _ _ ⟨rw4086, data4087, f4088, blockSize4104, hS.to [0, 1] (by kernel_rfl) ⟨rfl, rfl, rfl, rfl, trivial⟩, hV4089, hr4090, hz4091, hM⟩
      · refine wp_exit ?_
        refine then_ex (then_ex (blk_same ?_))
        exact s_end (rs := []) hS rfl rfl (hret rw4037 data4038 f4039 w hM hV4040 hr4041 hz4042 (hS.st.pick [0, 1] (by kernel_rfl)))

theorem slices_SortStableFunc___huff_packet_huff_packet__b6e1_f734_c {H : Imm} {F : List Frag} {w : World} {R : Ending → World → Prop} {kr : (List T_huff_packet) → Prop} {kp : Value → Prop} (hG : Gl H) (K : Nat) (x2693 : List T_huff_packet) (p2694 : Frag) (A2695 : Option Addr) (c2696 : Nat) (rw2697 : List (Row 2)) (f2699 : Frag) (hr2698 : RelL (R_huff_packet p2694) x2693 rw2697) (hV2700 : Vec 70 (Row.v (sz := 2)) 2 A2695 rw2697 c2696 f2699)
    (hS : St w H [p2694, f2699] F) (hm : (slices_SortStableFunc___huff_packet_huff_packet__b6e1_f734.m K x2693).wp kr kp)
    (hret : ∀ (rw4119 : List (Row 2)) (x4120 : (List T_huff_packet)) (f4121 : Frag) (w : World), kr x4120 → (Vec 70 (Row.v (sz := 2)) 2 A2695 rw4119 c2696 f4121) → (RelL (R_huff_packet p2694) x4120 rw4119) → (rw4119.length = rw2697.length) → St w H [p2694, f4121] F → R (.returned (.tuple ⟨[]⟩)) w) :
    Calls Try.prog 32 ⟨[.slice A2695 rw2697.length c2696, fnv 41 [] []]⟩ w R := by
  refine enter Try.func32 rfl Try.ntmps32 rfl hS fun a w hS => ?_
  have hM := hm; clear hm
  rw [slices_SortStableFunc___huff_packet_huff_packet__b6e1_f734.m] at hM
  have hs2701 : ∀ q ∈ p2694, q ∈ p2694 := fun _ h => h
  have hz2702 : rw2697.length = rw2697.length := rfl
  refine wp_region_list ?_
  refine st1 hS (mv rfl) rfl fun a w hS => ?_
  refine st1 hS (mv rfl) rfl fun a w hS => ?_
  refine st1 hS (ovE (v' := .int .i64 (x2693.length : Int)) (lenV rfl Try.runUnderlying68) (by rw [hr2698.len])) rfl fun a w hS => ?_
  refine st1 hS (mv rfl) rfl fun a w hS => ?_
  refine s_call hS rfl Try.call38 (slices_stableCmpFunc_huff_packet__b6e1_c92d_c hG K x2693 (x2693.length : Int) p2694 A2695 c2696 rw2697 f2699 hr2698 hV2700 (hS.st.part 2 [0, 1] (by kernel_rfl)) (wp_bind hM) (fun rw4112 data4113 f4114 w hM h4115 h4116 h4117 hst => s_back hS.ev hst.appF rfl fun hS => ?_))
  replace hS : Ss _ _ _ H [p2694, f4114] F _ _ := hS
  have hz4118 := Eq.trans h4117 hz2702
  replace hS := hS.re 0 (u := .slice A2695 rw2697.length c2696) (v := .slice A2695 rw4112.length c2696) rfl (by rw [h4117])
  replace hS := hS.re 4 (u := .slice A2695 rw2697.length c2696) (v := .slice A2695 rw4112.length c2696) rfl (by rw [h4117])
  replace hS := hS.re 5 (u := .slice A2695 rw2697.length c2696) (v := .slice A2695 rw4112.length c2696) rfl (by rw [h4117])
  refine wpList_nil ?_
  exact s_end (rs := []) hS rfl rfl (hret rw4112 data4113 f4114 w hM h4115 h4116 hz4118 (hS.st.pick [0, 1] (by kernel_rfl)))

theorem huff_merged_c {H : Imm} {F : List Frag} {w : World} {R : Ending → World → Prop} {kr : (List T_huff_packet) → Prop} {kp : Value → Prop} (hG : Gl H) (K : Nat) (a_2528 : List T_huff_packet) (b_2536 : List T_huff_packet) (p2529 : Frag) (A2530 : Option Addr) (c2531 : Nat) (rw2532 : List (Row 2)) (A2537 : Option Addr) (c2538 : Nat) (rw2539 : List (Row 2)) (hr2533 : RelL (R_huff_packet p2529) a_2528 rw2532) (hp2534 : Pl p2529 (Row.v (sz := 2)) A2530 rw2532) (hc2535 : rw2532.length ≤ c2531) (hr2540 : RelL (R_huff_packet p2529) b_2536 rw2539) (hp2541 : Pl p2529 (Row.v (sz := 2)) A2537 rw2539) (hc2542 : rw2539.length ≤ c2538)
    (hS : St w H [p2529] F) (hm : (huff_merged.m K a_2528 b_2536).wp kr kp)
    (hret : ∀ (p4131 : Frag) (A4133 : Option Addr) (c4134 : Nat) (rw4135 : List (Row 2)) (x4136 : (List T_huff_packet)) (f4137 : Frag) (w : World), kr x4136 → (∀ q ∈ p2529, q ∈ p4131) → (Vec 70 (Row.v (sz := 2)) 2 A4133 rw4135 c4134 f4137) → (RelL (R_huff_packet p4131) x4136 rw4135) → St w H [p4131, f4137] F → R (.returned (.slice A4133 rw4135.length c4134)) w)
    (hpan : ∀ v w, kp v → St w H [] F → R (.panicked [⟨v, false, false⟩]) w) :
    Calls Try.prog 35 ⟨[.slice A2530 rw2532.length c2531, .slice A2537 rw2539.length c2538]⟩ w R := by
  refine enter Try.func35 rfl Try.ntmps35 rfl hS fun a w hS => ?_
  have hM := hm; clear hm
  rw [huff_merged.m] at hM
  have hs2543 : ∀ q ∈ p2529, q ∈ p2529 := fun _ h => h
  refine wp_seq ?_
  refine wp_region_list ?_
  refine st1 hS (asg rfl) rfl fun a w hS => ?_
  obtain ⟨f2544, hV2545, hS⟩ := hS.nilV 70 (Row.v (sz := 2)) 2
  have hr2546 : RelL (R_huff_packet p2529) ([] : List T_huff_packet) ([] : List (Row 2)) := RelL.nil
  refine wpList_nil ?_
  refine then_n ?_
  refine wp_seq ?_
  refine wp_region_list ?_
  refine st1 hS (mv rfl) rfl fun a w hS => ?_
  refine st1 hS (mv rfl) rfl fun a w hS => ?_
  obtain ⟨rw2552, hrw⟩ : ∃ r, r = ([(⟨[.slice A2530 rw2532.length c2531], by simp, by simp [Value.oneCell']⟩ : Row 1), (⟨[.slice A2537 rw2539.length c2538], by simp, by simp [Value.oneCell']⟩ : Row 1)] : List (Row 1)) := ⟨_, rfl⟩
  have hr2551 : RelL (R_s_huff_packet p2529) ([a_2528, b_2536] : List (List T_huff_packet)) rw2552 := by rw [hrw]; exact (RelL.cons (show R_s_huff_packet p2529 _ _ from ⟨A2530, c2531, rw2532, rfl, hr2533, hp2534, hc2535⟩) (RelL.cons (show R_s_huff_packet p2529 _ _ from ⟨A2537, c2538, rw2539, rfl, hr2540, hp2541, hc2542⟩) RelL.nil))
  refine bsl (g := (Row.v (sz := 1))) rw2552 [.slice A2530 rw2532.length c2531, .slice A2537 rw2539.length c2538] hS Try.runUnderlying84 Try.sizeOf68 X.el68 rfl rfl rfl (by simp [Value.cells]) (by rw [hrw]; rfl) (by rw [hrw]; rfl) rfl rfl rfl fun w A2547 c2548 f2549 hV2550 hS => ?_
  clear hrw
  replace hS := hS.front [0, 2, 1] (by kernel_rfl)
  obtain ⟨p2553, hs2554, hs2555, hS⟩ := hS.poolF
  have hc2557 := hV2550.cap Row.len rfl
  have hp2556 := hV2550.pl.mono hs2554
  replace hp2534 := hp2534.mono hs2555
  replace hp2541 := hp2541.mono hs2555
  replace hr2533 := RelL.mono (fun _ _ h => R_huff_packet.mono hs2555 h) hr2533
  replace hr2540 := RelL.mono (fun _ _ h => R_huff_packet.mono hs2555 h) hr2540
  replace hr2546 := RelL.mono (fun _ _ h => R_huff_packet.mono hs2555 h) hr2546
  replace hr2551 := RelL.mono (fun _ _ h => R_s_huff_packet.mono hs2555 h) hr2551
  replace hs2543 := fun q h => hs2555 q (hs2543 q h)
  refine s_call hS rfl Try.call40 (slices_Concat___huff_packet_huff_packet__c hG K ([a_2528, b_2536] : List (List T_huff_packet)) p2553 A2547 c2548 rw2552 hr2551 hp2556 hc2557 (hS.st.part 1 [0, 1] (by kernel_rfl)) (wp_bind hM) (fun p2684 A2685 c2686 rw2687 x2688 f2689 w hM h2690 h2691 h2692 hst => s_back hS.ev hst.appF rfl fun hS => ?_) (fun v w hk hst => s_pan (then_pan (⟨hS.ev.defs, hpan _ _ hk hst.appF.frame⟩))))
  replace hS : Ss _ _ _ H [p2684, f2689, f2544] F _ _ := hS
  replace hp2534 := hp2534.mono h2690
  replace hp2541 := hp2541.mono h2690
  replace hp2556 := hp2556.mono h2690
  replace hr2533 := RelL.mono (fun _ _ h => R_huff_packet.mono h2690 h) hr2533
  replace hr2540 := RelL.mono (fun _ _ h => R_huff_packet.mono h2690 h) hr2540
  replace hr2546 := RelL.mono (fun _ _ h => R_huff_packet.mono h2690 h) hr2546
  replace hr2551 := RelL.mono (fun _ _ h => R_s_huff_packet.mono h2690 h) hr2551
  replace hs2543 := fun q h => h2690 q (hs2543 q h)
  refine st1 hS (asg rfl) rfl fun a w hS => ?_
  refine wpList_nil ?_
  refine then_n ?_
  refine wp_seq ?_
  refine wp_region_list ?_
  refine st1 hS (mv rfl) rfl fun a w hS => ?_
  refine s_call hS rfl Try.call32 (slices_SortStableFunc___huff_packet_huff_packet__b6e1_f734_c hG K x2688 p2684 A2685 c2686 rw2687 f2689 h2692 h2691 (hS.st.part 2 [0, 1, 2] (by kernel_rfl)) (wp_bind hM) (fun rw4125 x4126 f4127 w hM h4128 h4129 h4130 hst => s_back hS.ev hst.appF rfl fun hS => ?_))
  replace hS : Ss _ _ _ H [p2684, f4127, f2544] F _ _ := hS
  replace hS := hS.re 5 (u := .slice A2685 rw2687.length c2686) (v := .slice A2685 rw4125.length c2686) rfl (by rw [h4130])
  replace hS := hS.re 9 (u := .slice A2685 rw2687.length c2686) (v := .slice A2685 rw4125.length c2686) rfl (by rw [h4130])
  replace hS := hS.re 10 (u := .slice A2685 rw2687.length c2686) (v := .slice A2685 rw4125.length c2686) rfl (by rw [h4130])
  refine wpList_nil ?_
  refine then_n ?_
  refine wp_seq ?_
  refine wp_region_list ?_
  refine st1 hS (mv rfl) rfl fun a w hS => ?_
  refine st1 hS (asg rfl) rfl fun a w hS => ?_
  refine wpList_nil ?_
  refine then_n ?_
  refine wp_ret ?_
  exact s_ret (rs := [4]) hS rfl rfl (hret p2684 A2685 c2686 rw4125 x4126 f4127 w hM hs2543 h4128 h4129 (hS.st.pick [0, 1] (by kernel_rfl)))

theorem huff_Lengths_c {H : Imm} {F : List Frag} {w : World} {R : Ending → World → Prop} {kr : ((List Int) × Int) → Prop} {kp : Value → Prop} (hG : Gl H) (K : Nat) (often627 : List Int) (most632 : Int) (A628 : Option Addr) (c629 : Nat) (hr630 : Rdl H [] F (ci .i64) A628 often627) (hc631 : often627.length ≤ c629)
    (hS : St w H [] F) (hm : (huff_Lengths.m K often627 most632).wp kr kp)
    (hret : ∀ (A4354 : Option Addr) (c4355 : Nat) (x4356 : (List Int)) (f4357 : Frag) (x4359 : Int) (w : World), kr (x4356, x4359) → (Vec 3 (ci .i64) 1 A4354 x4356 c4355 f4357) → St w H [f4357] F → R (.returned (.tuple ⟨[.slice A4354 x4356.length c4355, .int .i64 x4359]⟩)) w)
    (hpan : ∀ v w, kp v → St w H [] F → R (.panicked [⟨v, false, false⟩]) w) :
    Calls Try.prog 20 ⟨[.slice A628 often627.length c629, .int .i64 most632]⟩ w R := by
  refine enter Try.func20 rfl Try.ntmps20 rfl hS fun a w hS => ?_
  have hM := hm; clear hm
  rw [huff_Lengths.m] at hM
  refine wp_seq ?_
  refine wp_region_list ?_
  refine st1 hS (asg rfl) rfl fun a w hS => ?_
  obtain ⟨f633, hV634, hS⟩ := hS.nilV 3 (ci .i64) 1
  refine st1 hS (asg rfl) rfl fun a w hS => ?_
  refine wpList_nil ?_
  refine then_n ?_
  refine wp_seq ?_
  refine wp_seq ?_
  refine wp_region_list ?_
  refine st1 hS (mv rfl) rfl fun a w hS => ?_
  refine st1 hS (bin rfl rfl rfl) rfl fun a w hS => ?_
  refine st1 hS (mv rfl) rfl fun a w hS => ?_
  refine g_op 2 false 17 (b := (decide (most632 < (1 : Int)))) (r := (decide (most632 > (15 : Int)))) hS rfl rfl rfl rfl rfl rfl rfl (fun hb a w hS K hK => ?_) rfl fun a w hS => ?_
  · refine st1g hS rfl rfl rfl hb (mv rfl) rfl fun a w hS => ?_
    refine st1g hS rfl rfl rfl hb (bin rfl rfl rfl) rfl fun a w hS => ?_
    exact wpList_nil (hK _ _ (hS.up 2 rfl rfl))
  refine st1 hS (mv rfl) rfl fun a w hS => ?_
  refine g_op 3 false 21 (b := ((decide (most632 < (1 : Int))) || (decide (most632 > (15 : Int))))) (r := (decide ((often627.length : Int) > (320 : Int)))) hS rfl rfl rfl rfl rfl rfl rfl (fun hb a w hS K hK => ?_) rfl fun a w hS => ?_
  · refine st1g hS rfl rfl rfl hb (mv rfl) rfl fun a w hS => ?_
    refine st1g hS rfl rfl rfl hb (lenV rfl Try.runUnderlying22) rfl fun a w hS => ?_
    refine st1g hS rfl rfl rfl hb (bin rfl rfl rfl) rfl fun a w hS => ?_
    exact wpList_nil (hK _ _ (hS.up 3 rfl rfl))
  refine st1 hS (mv rfl) rfl fun a w hS => ?_
  refine seg_cutJ (fun a w => ∃ (v661 : Bool), Ss 109 [] [(0, .slice A628 often627.length c629), (1, .int .i64 most632), (29, .bool v661)] H [] F a w ∧ (huff_Lengths.j1 K often627 most632 v661).wp kr kp) 3 (fun J662 hJ662 => ?_) ?_
  · refine ifB (b := (((decide (most632 < (1 : Int))) || (decide (most632 > (15 : Int)))) || (decide ((often627.length : Int) > (320 : Int))))) hM (fun hb635 hM => ?_) (fun hb635 hM => ?_)
    · replace hS := hS.re 25 (v := .bool true) rfl (congrArg Value.bool hb635)
      replace hS := hS.re 26 (v := .bool true) rfl (congrArg Value.bool hb635)
      refine skips 2 hS rfl fun a w hS => ?_
      refine st1 hS (pk rfl rfl rfl) rfl fun a w hS => ?_
      refine wpList_nil ?_
      refine then_n ?_
      exact hJ662 _ _ ⟨true, hS.to [] (by kernel_rfl) ⟨rfl, rfl, rfl, trivial⟩, hM⟩
    · replace hS := hS.re 25 (v := .bool false) rfl (congrArg Value.bool hb635)
      replace hS := hS.re 26 (v := .bool false) rfl (congrArg Value.bool hb635)
      refine st1g hS rfl rfl rfl rfl (mv rfl) rfl fun a w hS => ?_
      refine unguard hS rfl rfl rfl rfl ?_
      refine s_call hS rfl Try.call30 (slices_ContainsFunc___int_int__5d67_c hG K often627 A628 c629 (hr630.app _) hc631 (hS.st.part 0 [0] (by kernel_rfl)) (wp_bind hM) (fun x660 w hM  hst => s_back hS.ev hst.appF rfl fun hS => ?_))
      replace hS : Ss _ _ _ H [f633] F _ _ := hS
      refine st1 hS (pk rfl rfl rfl) rfl fun a w hS => ?_
      refine wpList_nil ?_
      refine then_n ?_
      exact hJ662 _ _ ⟨x660, hS.to [] (by kernel_rfl) ⟨rfl, rfl, rfl, trivial⟩, hM⟩
  · intro a w hI
    obtain ⟨v661, hS, hM⟩ := hI
    rw [huff_Lengths.j1] at hM
    refine wpList_nil ?_
    refine then_n ?_
    refine s_cond hS rfl hM (fun hb663 hM => ?_) (fun hb663 hM => ?_)
    · refine wp_seq ?_
      refine wp_region_list ?_
      refine st1 hS (asg rfl) rfl fun a w hS => ?_
      obtain ⟨f664, hV665, hS⟩ := hS.nilV 3 (ci .i64) 1
      refine st1 hS (asg rfl) rfl fun a w hS => ?_
      refine wpList_nil ?_
      refine then_n ?_
      refine wp_ret ?_
      refine then_ret ?_
      exact s_ret (rs := [4, 5]) hS rfl rfl (hret none (0) ([] : List Int) f664 (1 : Int) w hM hV665 (hS.st.pick [0] (by kernel_rfl)))
    · refine wp_skip ?_
      refine then_n ?_
      refine wp_seq ?_
      refine wp_region_list ?_
      refine st1 hS (asg rfl) rfl fun a w hS => ?_
      obtain ⟨p668, hS⟩ := hS.pool0
      obtain ⟨f666, hV667, hS⟩ := hS.nilV 70 (Row.v (sz := 2)) 2
      have hr669 : RelL (R_huff_packet p668) ([] : List T_huff_packet) ([] : List (Row 2)) := RelL.nil
      refine wpList_nil ?_
      refine then_n ?_
      refine seq_joinJ (fun a w => ∃ (p746 : Frag) (A747 : Option Addr) (c748 : Nat) (rw749 : List (Row 2)) (single750 : (List T_huff_packet)) (f751 : Frag), Ss 109 [] [(0, .slice A628 often627.length c629), (1, .int .i64 most632), (6, .slice A747 rw749.length c748)] H [p746, f751] F a w ∧ (Vec 70 (Row.v (sz := 2)) 2 A747 rw749 c748 f751) ∧ (RelL (R_huff_packet p746) single750 rw749) ∧ (huff_Lengths.j3 K often627 most632 single750).wp kr kp) (fun J754 hJ754 => ?_) ?_
      · refine wp_seq ?_
        refine wp_region_list ?_
        refine st1 hS (mv rfl) rfl fun a w hS => ?_
        refine st1 hS (lenV rfl Try.runUnderlying22) rfl fun a w hS => ?_
        refine st1 hS (mv rfl) rfl fun a w hS => ?_
        refine wpList_nil ?_
        refine then_n ?_
        refine wp_block ?_
        refine s_loopJ (fun k717 a w => ∃ (p708 : Frag) (A709 : Option Addr) (c710 : Nat) (rw711 : List (Row 2)) (single712 : (List T_huff_packet)) (f713 : Frag) (v716 : Int), Ss 109 [] [(0, .slice A628 often627.length c629), (1, .int .i64 most632), (6, .slice A709 rw711.length c710), (30, .slice A628 often627.length c629), (31, .int .i64 (often627.length : Int)), (32, .int .i64 v716)] H [p708, f713] F a w ∧ (Vec 70 (Row.v (sz := 2)) 2 A709 rw711 c710 f713) ∧ (RelL (R_huff_packet p708) single712 rw711) ∧ (huff_Lengths.l2 K often627 most632 k717 single712 v716).wp kr kp) K ?_ ?_ ?_
        · exact ⟨p668, none, 0, ([] : List (Row 2)), ([] : List T_huff_packet), f666, (0 : Int), hS.to [1, 0] (by kernel_rfl) ⟨rfl, rfl, rfl, rfl, rfl, rfl, trivial⟩, hV667, hr669, hM⟩
        · intro a w hI; obtain ⟨_, _, _, _, _, _, _, _, _, _, hM⟩ := hI; exact hM
        · intro k717 a w hI J745 hJ745
          obtain ⟨p708, A709, c710, rw711, single712, f713, v716, hS, hV714, hr715, hM⟩ := hI
          rw [huff_Lengths.l2] at hM
          refine wp_seq ?_
          refine wp_region_list ?_
          refine st1 hS (bin rfl rfl rfl) rfl fun a w hS => ?_
          refine wpList_nil ?_
          refine then_n ?_
          refine wp_seq ?_
          refine s_cond hS rfl hM (fun hb718 hM => ?_) (fun hb718 hM => ?_)
          · refine wp_skip ?_
            refine then_n ?_
            refine wp_seq ?_
            refine wp_block ?_
            refine wp_seq ?_
            refine wp_region_list ?_
            refine st1 hS (mv rfl) rfl fun a w hS => ?_
            obtain ⟨hk719, hM⟩ := wp_chk hM
            refine st1 hS (ixV rfl rfl Try.runUnderlying22 Try.sizeOf3 hr630.wk (fun _ => rfl) rfl hk719) rfl fun a w hS => ?_
            refine st1 hS (ldV0 rfl hr630.wk (fun _ => rfl) hk719 rfl Try.isAgg3) rfl fun a w hS => ?_
            refine st1 hS (asg rfl) rfl fun a w hS => ?_
            refine st1x (v := Value.int .i64) hS (asg rfl) rfl fun n_720 a w hz hS => ?_
            have hM := lt_to hz hM; clear hz
            refine wpList_nil ?_
            refine then_n ?_
            refine wp_seq ?_
            refine wp_region_list ?_
            refine st1 hS (mv rfl) rfl fun a w hS => ?_
            refine st1 hS (bin rfl rfl rfl) rfl fun a w hS => ?_
            refine wpList_nil ?_
            refine then_n ?_
            refine s_cond hS rfl hM (fun hb721 hM => ?_) (fun hb721 hM => ?_)
            · refine wp_region_list ?_
              refine st1 hS (mv rfl) rfl fun a w hS => ?_
              refine st1 hS (mv rfl) rfl fun a w hS => ?_
              refine st1 hS (mv rfl) rfl fun a w hS => ?_
              refine bsl (g := (ci .i64)) ([v716] : List Int) [.int .i64 v716] hS Try.runUnderlying22 Try.sizeOf3 X.el3 rfl rfl rfl (by simp [Value.cells]) rfl rfl rfl rfl rfl fun w A722 c723 f724 hV725 hS => ?_
              refine st1 hS (bld ([.int .i64 n_720, .slice A722 ([v716] : List Int).length c723]) [(0, 1), (1, 1)] Try.zeroValue70 Try.runUnderlying70 (by intro w; simp [Try.sizeOf22, Try.sizeOf3]) rfl rfl) rfl fun a w hS => ?_
              replace hS := hS.front [0, 1, 2] (by kernel_rfl)
              obtain ⟨p726, hs727, hs728, hS⟩ := hS.poolF
              have hc730 := hV725.cap (fun _ => rfl) rfl
              have hp729 := hV725.pl.mono hs727
              replace hr715 := RelL.mono (fun _ _ h => R_huff_packet.mono hs728 h) hr715
              obtain ⟨rw736, hrw⟩ : ∃ r, r = ([(⟨[.int .i64 n_720, .slice A722 ([v716] : List Int).length c723], by simp, by simp [Value.oneCell']⟩ : Row 2)] : List (Row 2)) := ⟨_, rfl⟩
              have hr735 : RelL (R_huff_packet p726) ([(T_huff_packet.mk n_720 ([v716] : List Int))] : List T_huff_packet) rw736 := by rw [hrw]; exact (RelL.cons (show R_huff_packet p726 _ _ from ⟨A722, c723, rfl, hp729, hc730⟩) RelL.nil)
              refine bsl (g := (Row.v (sz := 2))) rw736 [.agg ⟨[.int .i64 n_720, .slice A722 ([v716] : List Int).length c723]⟩] hS Try.runUnderlying68 Try.sizeOf70 X.el70 rfl rfl rfl (by simp [Value.cells]) (by rw [hrw]; rfl) (by rw [hrw]; rfl) rfl rfl rfl fun w A731 c732 f733 hV734 hS => ?_
              clear hrw
              obtain ⟨hk737, hM⟩ := wp_chk hM
              refine apV (ys := rw736) 2 hS rfl rfl hV714 rfl (hV734.rd (i := 0) rfl) Try.runUnderlying68 Try.runUnderlying68 X.el70 Row.len rfl one_row (hr715.room hr735 hk737) rfl fun rw742 w A738 c739 f740 hz hV741 hS => ?_
              obtain ⟨zs743, hzm⟩ : ∃ z, z = single712 ++ ([(T_huff_packet.mk n_720 ([v716] : List Int))] : List T_huff_packet) := ⟨_, rfl⟩
              replace hM := lt_to hzm hM
              have hr744 := RelL.append hr715 hr735
              rw [← hz, ← hzm] at hr744; clear hz hzm
              refine st1 hS (asg rfl) rfl fun a w hS => ?_
              refine wpList_nil ?_
              refine blk_n (then_n ?_)
              refine wp_region_list ?_
              refine st1 hS (bin rfl rfl rfl) rfl fun a w hS => ?_
              refine st1 hS (mv rfl) rfl fun a w hS => ?_
              refine wpList_nil ?_
              refine then_n ?_
              exact hJ745 _ _ ⟨p726, A738, c739, rw742, zs743, f740, (w64 (v716 + (1 : Int))), hS.to [1, 2] (by kernel_rfl) ⟨rfl, rfl, rfl, rfl, rfl, rfl, trivial⟩, hV741, hr744, hM⟩
            · refine wp_skip ?_
              refine blk_n (then_n ?_)
              refine wp_region_list ?_
              refine st1 hS (bin rfl rfl rfl) rfl fun a w hS => ?_
              refine st1 hS (mv rfl) rfl fun a w hS => ?_
              refine wpList_nil ?_
              refine then_n ?_
              exact hJ745 _ _ ⟨p708, A709, c710, rw711, single712, f713, (w64 (v716 + (1 : Int))), hS.to [0, 1] (by kernel_rfl) ⟨rfl, rfl, rfl, rfl, rfl, rfl, trivial⟩, hV714, hr715, hM⟩
          · refine wp_exit ?_
            refine then_ex (then_ex (blk_same (then_n ?_)))
            exact hJ754 _ _ ⟨p708, A709, c710, rw711, single712, f713, hS.to [0, 1] (by kernel_rfl) ⟨rfl, rfl, rfl, trivial⟩, hV714, hr715, hM⟩
      · intro a w hI
        obtain ⟨p746, A747, c748, rw749, single750, f751, hS, hV752, hr753, hM⟩ := hI
        rw [huff_Lengths.j3] at hM
        refine wp_seq ?_
        refine wp_seq ?_
        refine wp_region_list ?_
        refine st1 hS (mv rfl) rfl fun a w hS => ?_
        refine st1 hS (ovE (v' := .int .i64 (single750.length : Int)) (lenV rfl Try.runUnderlying68) (by rw [hr753.len])) rfl fun a w hS => ?_
        refine st1 hS (mv rfl) rfl fun a w hS => ?_
        obtain ⟨hk755, hM⟩ := wp_chk hM
        refine st1 hS (shl rfl rfl hk755) rfl fun a w hS => ?_
        refine st1 hS (bin rfl rfl rfl) rfl fun a w hS => ?_
        refine wpList_nil ?_
        refine then_n ?_
        refine s_cond hS rfl hM (fun hb756 hM => ?_) (fun hb756 hM => ?_)
        · refine wp_seq ?_
          refine wp_region_list ?_
          refine st1 hS (asg rfl) rfl fun a w hS => ?_
          obtain ⟨f757, hV758, hS⟩ := hS.nilV 3 (ci .i64) 1
          refine st1 hS (asg rfl) rfl fun a w hS => ?_
          refine wpList_nil ?_
          refine then_n ?_
          refine wp_ret ?_
          refine then_ret ?_
          exact s_ret (rs := [4, 5]) hS rfl rfl (hret none (0) ([] : List Int) f757 (1 : Int) w hM hV758 (hS.st.pick [0] (by kernel_rfl)))
        · refine wp_skip ?_
          refine then_n ?_
          refine wp_seq ?_
          refine wp_region_list ?_
          refine st1 hS (mv rfl) rfl fun a w hS => ?_
          refine st1 hS (lenV rfl Try.runUnderlying22) rfl fun a w hS => ?_
          obtain ⟨hk759, hM⟩ := wp_chk hM
          refine mkS (g := (ci .i64)) (0 : Int) hS rfl rfl (by simp) Try.runUnderlying22 X.el3 (fun w => ⟨_, Try.zeroValue3 w, rfl⟩) (fun _ => rfl) rfl rfl hk759 rfl fun zs764 w A760 c761 f762 hz hV763 hS => ?_
          have hM := lt_to hz hM; clear hz
          refine st1 hS (asg rfl) rfl fun a w hS => ?_
          refine wpList_nil ?_
          refine then_n ?_
          refine seq_joinJ (fun a w => ∃ (out778 : (List Int)) (f779 : Frag), Ss 109 [] [(1, .int .i64 most632), (6, .slice A747 rw749.length c748), (9, .slice A760 out778.length c761)] H [p746, f751, f779] F a w ∧ (Vec 3 (ci .i64) 1 A760 out778 c761 f779) ∧ (huff_Lengths.j4 K most632 single750 out778).wp kr kp) (fun J781 hJ781 => ?_) ?_
          · refine wp_seq ?_
            refine wp_region_list ?_
            refine st1 hS (mv rfl) rfl fun a w hS => ?_
            refine st1 hS (ovE (v' := .int .i64 (single750.length : Int)) (lenV rfl Try.runUnderlying68) (by rw [hr753.len])) rfl fun a w hS => ?_
            refine st1 hS (bin rfl rfl rfl) rfl fun a w hS => ?_
            refine wpList_nil ?_
            refine then_n ?_
            refine s_cond hS rfl hM (fun hb765 hM => ?_) (fun hb765 hM => ?_)
            · refine wp_region_list ?_
              refine st1 hS (mv rfl) rfl fun a w hS => ?_
              refine st1 hS (mv rfl) rfl fun a w hS => ?_
              obtain ⟨hk766, hM⟩ := wp_chk hM
              refine st1 hS (ixV rfl rfl Try.runUnderlying68 Try.sizeOf70 (hV752.rd (i := 2) rfl) Row.len rfl (hr753.inb hk766)) rfl fun a w hS => ?_
              refine st1 hS (fadV rfl (hV752.rd (i := 2) rfl) Row.len rfl (hr753.inb hk766) Try.runUnderlying70 rfl Try.sizeOf22 rfl) rfl fun a w hS => ?_
              obtain ⟨A767, c768, hw771, hp769, hc770⟩ := hr753.get hk766
              refine st1 hS (ldV 1 rfl (hV752.rd (i := 2) rfl) Row.len (hr753.inb hk766) (by rw [show Row.v (rd rw749 (0 : Int)) = _ from hw771]; rfl) Try.isAgg22) rfl fun a w hS => ?_
              obtain ⟨hk772, hM⟩ := wp_chk hM
              refine st1 hS (ixV rfl rfl Try.runUnderlying22 Try.sizeOf3 (hp769.rd (i := 1) rfl) (fun _ => rfl) rfl hk772) rfl fun a w hS => ?_
              refine st1 hS (ldV0 rfl (hp769.rd (i := 1) rfl) (fun _ => rfl) hk772 rfl Try.isAgg3) rfl fun a w hS => ?_
              obtain ⟨hk773, hM⟩ := wp_chk hM
              refine st1 hS (ixV rfl rfl Try.runUnderlying22 Try.sizeOf3 (hV763.rd (i := 0) rfl) (fun _ => rfl) rfl hk773) rfl fun a w hS => ?_
              refine stV 0 0 ((1 : Int)) hS rfl rfl hV763 rfl Try.sizeOf3 (one_t3 (1 : Int)) (fun _ => rfl) hk773 rfl rfl fun zs776 w f774 hz hz777 hV775 hS => ?_
              have hM := lt_to hz hM; clear hz
              replace hS := hS.re 9 (u := .slice A760 zs764.length c761) (v := .slice A760 zs776.length c761) rfl (by rw [hz777])
              replace hS := hS.re 54 (u := .slice A760 zs764.length c761) (v := .slice A760 zs776.length c761) rfl (by rw [hz777])
              replace hS := hS.re 58 (u := .slice A760 zs764.length c761) (v := .slice A760 zs776.length c761) rfl (by rw [hz777])
              refine wpList_nil ?_
              refine then_n ?_
              exact hJ781 _ _ ⟨zs776, f774, hS.to [1, 2, 0] (by kernel_rfl) ⟨rfl, rfl, rfl, trivial⟩, hV775, hM⟩
            · refine wp_skip ?_
              refine then_n ?_
              exact hJ781 _ _ ⟨zs764, f762, hS.to [1, 2, 0] (by kernel_rfl) ⟨rfl, rfl, rfl, trivial⟩, hV763, hM⟩
          · intro a w hI
            obtain ⟨out778, f779, hS, hV780, hM⟩ := hI
            rw [huff_Lengths.j4] at hM
            refine wp_seq ?_
            refine wp_seq ?_
            refine wp_region_list ?_
            refine st1 hS (mv rfl) rfl fun a w hS => ?_
            refine st1 hS (ovE (v' := .int .i64 (single750.length : Int)) (lenV rfl Try.runUnderlying68) (by rw [hr753.len])) rfl fun a w hS => ?_
            refine st1 hS (bin rfl rfl rfl) rfl fun a w hS => ?_
            refine wpList_nil ?_
            refine then_n ?_
            refine s_cond hS rfl hM (fun hb782 hM => ?_) (fun hb782 hM => ?_)
            · refine wp_seq ?_
              refine wp_region_list ?_
              refine st1 hS (mv rfl) rfl fun a w hS => ?_
              refine st1 hS (asg rfl) rfl fun a w hS => ?_
              refine st1 hS (asg rfl) rfl fun a w hS => ?_
              refine wpList_nil ?_
              refine then_n ?_
              refine wp_ret ?_
              refine then_ret ?_
              exact s_ret (rs := [4, 5]) hS rfl rfl (hret A760 c761 out778 f779 (0 : Int) w hM hV780 (hS.st.pick [2] (by kernel_rfl)))
            · refine wp_skip ?_
              refine then_n ?_
              refine wp_seq ?_
              refine wp_region_list ?_
              refine st1 hS (mv rfl) rfl fun a w hS => ?_
              refine s_call hS rfl Try.call32 (slices_SortStableFunc___huff_packet_huff_packet__b6e1_f289_c hG K single750 p746 A747 c748 rw749 f751 hr753 hV752 (hS.st.part 2 [0, 1, 2] (by kernel_rfl)) (wp_bind hM) (fun rw2228 x2229 f2230 w hM h2231 h2232 h2233 hst => s_back hS.ev hst.appF rfl fun hS => ?_))
              replace hS : Ss _ _ _ H [p746, f2230, f779] F _ _ := hS
              replace hS := hS.re 6 (u := .slice A747 rw749.length c748) (v := .slice A747 rw2228.length c748) rfl (by rw [h2233])
              replace hS := hS.re 66 (u := .slice A747 rw749.length c748) (v := .slice A747 rw2228.length c748) rfl (by rw [h2233])
              replace hS := hS.re 70 (u := .slice A747 rw749.length c748) (v := .slice A747 rw2228.length c748) rfl (by rw [h2233])
              refine wpList_nil ?_
              refine then_n ?_
              refine wp_seq ?_
              refine wp_region_list ?_
              refine st1 hS (mv rfl) rfl fun a w hS => ?_
              refine st1 hS (asg rfl) rfl fun a w hS => ?_
              refine wpList_nil ?_
              refine then_n ?_
              refine seq_joinJ (fun a w => ∃ (p4238 : Frag) (A4242 : Option Addr) (c4243 : Nat) (rw4244 : List (Row 2)) (row4245 : (List T_huff_packet)), Ss 109 [] [(6, .slice A747 rw2228.length c748), (9, .slice A760 out778.length c761), (10, .slice A4242 rw4244.length c4243)] H [p4238, f779] F a w ∧ (RelL (R_huff_packet p4238) x2229 rw2228) ∧ (Pl p4238 (Row.v (sz := 2)) A747 rw2228) ∧ (rw2228.length ≤ c748) ∧ (RelL (R_huff_packet p4238) row4245 rw4244) ∧ (Pl p4238 (Row.v (sz := 2)) A4242 rw4244) ∧ (rw4244.length ≤ c4243) ∧ (huff_Lengths.j6 K out778 x2229 row4245).wp kr kp) (fun J4249 hJ4249 => ?_) ?_
              · refine wp_seq ?_
                refine wp_region_list ?_
                refine st1 hS (mv rfl) rfl fun a w hS => ?_
                refine st1 hS (bin rfl rfl rfl) rfl fun a w hS => ?_
                refine st1 hS (mv rfl) rfl fun a w hS => ?_
                refine wpList_nil ?_
                refine then_n ?_
                refine wp_block ?_
                refine s_loopJ (fun k4197 a w => ∃ (p4185 : Frag) (A4189 : Option Addr) (c4190 : Nat) (rw4191 : List (Row 2)) (row4192 : (List T_huff_packet)) (v4196 : Int), Ss 109 [] [(6, .slice A747 rw2228.length c748), (9, .slice A760 out778.length c761), (10, .slice A4189 rw4191.length c4190), (74, .int .i64 (w64 (most632 - (1 : Int)))), (75, .int .i64 v4196)] H [p4185, f779] F a w ∧ (RelL (R_huff_packet p4185) x2229 rw2228) ∧ (Pl p4185 (Row.v (sz := 2)) A747 rw2228) ∧ (rw2228.length ≤ c748) ∧ (RelL (R_huff_packet p4185) row4192 rw4191) ∧ (Pl p4185 (Row.v (sz := 2)) A4189 rw4191) ∧ (rw4191.length ≤ c4190) ∧ (huff_Lengths.l5 K most632 out778 x2229 k4197 row4192 v4196).wp kr kp) K ?_ ?_ ?_
                · replace hS := hS.front [1, 0, 2] (by kernel_rfl)
                  obtain ⟨p4228, hs4229, hs4230, hS⟩ := hS.poolF
                  have hc4232 := h2231.cap Row.len rfl
                  have hp4231 := h2231.pl.mono hs4229
                  replace h2232 := RelL.mono (fun _ _ h => R_huff_packet.mono hs4230 h) h2232
                  exact ⟨p4228, A747, c748, rw2228, x2229, (0 : Int), hS.to [0, 1] (by kernel_rfl) ⟨rfl, rfl, rfl, rfl, rfl, trivial⟩, h2232, hp4231, hc4232, h2232, hp4231, hc4232, hM⟩
                · intro a w hI; obtain ⟨_, _, _, _, _, _, _, _, _, _, _, _, _, hM⟩ := hI; exact hM
                · intro k4197 a w hI J4227 hJ4227
                  obtain ⟨p4185, A4189, c4190, rw4191, row4192, v4196, hS, hr4186, hp4187, hc4188, hr4193, hp4194, hc4195, hM⟩ := hI
                  rw [huff_Lengths.l5] at hM
                  refine wp_seq ?_
                  refine wp_region_list ?_
                  refine st1 hS (bin rfl rfl rfl) rfl fun a w hS => ?_
                  refine wpList_nil ?_
                  refine then_n ?_
                  refine wp_seq ?_
                  refine s_cond hS rfl hM (fun hb4198 hM => ?_) (fun hb4198 hM => ?_)
                  · refine wp_skip ?_
                    refine then_n ?_
                    refine wp_seq ?_
                    refine wp_block ?_
                    refine wp_region_list ?_
                    refine st1 hS (mv rfl) rfl fun a w hS => ?_
                    refine st1 hS (mv rfl) rfl fun a w hS => ?_
                    refine s_call hS rfl Try.call36 (huff_pairs_c hG K row4192 p4185 A4189 c4190 rw4191 hr4193 hp4194 hc4195 (hS.st.part 1 [0, 1] (by kernel_rfl)) (wp_bind hM) (fun p4199 A4200 c4201 rw4202 x4203 f4204 w hM h4205 h4206 h4207 hst => s_back hS.ev hst.appF rfl fun hS => ?_) (fun v w hk hst => s_pan (blk_pan (then_pan (then_pan (blk_pan (then_pan (⟨hS.ev.defs, hpan _ _ hk hst.appF.frame⟩))))))))
                    replace hS : Ss _ _ _ H [p4199, f4204, f779] F _ _ := hS
                    replace hp4187 := hp4187.mono h4205
                    replace hp4194 := hp4194.mono h4205
                    replace hr4186 := RelL.mono (fun _ _ h => R_huff_packet.mono h4205 h) hr4186
                    replace hr4193 := RelL.mono (fun _ _ h => R_huff_packet.mono h4205 h) hr4193
                    replace hS := hS.front [1, 0, 2] (by kernel_rfl)
                    obtain ⟨p4208, hs4209, hs4210, hS⟩ := hS.poolF
                    have hc4212 := h4206.cap Row.len rfl
                    have hp4211 := h4206.pl.mono hs4209
                    replace h4207 := RelL.mono (fun _ _ h => R_huff_packet.mono hs4210 h) h4207
                    replace hp4187 := hp4187.mono hs4210
                    replace hp4194 := hp4194.mono hs4210
                    replace hr4186 := RelL.mono (fun _ _ h => R_huff_packet.mono hs4210 h) hr4186
                    replace hr4193 := RelL.mono (fun _ _ h => R_huff_packet.mono hs4210 h) hr4193
                    refine s_call hS rfl Try.call35 (huff_merged_c hG K x2229 x4203 p4208 A747 c748 rw2228 A4200 c4201 rw4202 hr4186 hp4187 hc4188 h4207 hp4211 hc4212 (hS.st.part 1 [0, 1] (by kernel_rfl)) (wp_bind hM) (fun p4213 A4214 c4215 rw4216 x4217 f4218 w hM h4219 h4220 h4221 hst => s_back hS.ev hst.appF rfl fun hS => ?_) (fun v w hk hst => s_pan (blk_pan (then_pan (then_pan (blk_pan (then_pan (⟨hS.ev.defs, hpan _ _ hk hst.appF.frame⟩))))))))
                    replace hS : Ss _ _ _ H [p4213, f4218, f779] F _ _ := hS
                    replace h4207 := RelL.mono (fun _ _ h => R_huff_packet.mono h4219 h) h4207
                    replace hp4187 := hp4187.mono h4219
                    replace hp4194 := hp4194.mono h4219
                    replace hp4211 := hp4211.mono h4219
                    replace hr4186 := RelL.mono (fun _ _ h => R_huff_packet.mono h4219 h) hr4186
                    replace hr4193 := RelL.mono (fun _ _ h => R_huff_packet.mono h4219 h) hr4193
                    refine st1 hS (asg rfl) rfl fun a w hS => ?_
                    refine wpList_nil ?_
                    refine blk_n (then_n ?_)
                    refine wp_region_list ?_
                    refine st1 hS (bin rfl rfl rfl) rfl fun a w hS => ?_
                    refine st1 hS (mv rfl) rfl fun a w hS => ?_
                    refine wpList_nil ?_
                    refine then_n ?_
                    replace hS := hS.front [1, 0, 2] (by kernel_rfl)
                    obtain ⟨p4233, hs4234, hs4235, hS⟩ := hS.poolF
                    have hc4237 := h4220.cap Row.len rfl
                    have hp4236 := h4220.pl.mono hs4234
                    replace h4207 := RelL.mono (fun _ _ h => R_huff_packet.mono hs4235 h) h4207
                    replace h4221 := RelL.mono (fun _ _ h => R_huff_packet.mono hs4235 h) h4221
                    replace hp4187 := hp4187.mono hs4235
                    replace hp4194 := hp4194.mono hs4235
                    replace hp4211 := hp4211.mono hs4235
                    replace hr4186 := RelL.mono (fun _ _ h => R_huff_packet.mono hs4235 h) hr4186
                    replace hr4193 := RelL.mono (fun _ _ h => R_huff_packet.mono hs4235 h) hr4193
                    exact hJ4227 _ _ ⟨p4233, A4214, c4215, rw4216, x4217, (w64 (v4196 + (1 : Int))), hS.to [0, 1] (by kernel_rfl) ⟨rfl, rfl, rfl, rfl, rfl, trivial⟩, hr4186, hp4187, hc4188, h4221, hp4236, hc4237, hM⟩
                  · refine wp_exit ?_
                    refine then_ex (then_ex (blk_same (then_n ?_)))
                    exact hJ4249 _ _ ⟨p4185, A4189, c4190, rw4191, row4192, hS.to [0, 1] (by kernel_rfl) ⟨rfl, rfl, rfl, trivial⟩, hr4186, hp4187, hc4188, hr4193, hp4194, hc4195, hM⟩
              · intro a w hI
                obtain ⟨p4238, A4242, c4243, rw4244, row4245, hS, hr4239, hp4240, hc4241, hr4246, hp4247, hc4248, hM⟩ := hI
                rw [huff_Lengths.j6] at hM
                refine wp_seq ?_
                refine wp_seq ?_
                refine wp_region_list ?_
                refine st1 hS (mv rfl) rfl fun a w hS => ?_
                refine st1 hS (mv rfl) rfl fun a w hS => ?_
                refine st1 hS (ovE (v' := .int .i64 (x2229.length : Int)) (lenV rfl Try.runUnderlying68) (by rw [hr4239.len])) rfl fun a w hS => ?_
                refine st1 hS (bin rfl rfl rfl) rfl fun a w hS => ?_
                refine st1 hS (bin rfl rfl rfl) rfl fun a w hS => ?_
                obtain ⟨hk4250, hM⟩ := wp_chk hM
                refine slVx (g := (Row.v (sz := 2))) hS rfl Try.runUnderlying68 Try.sizeOf70 lo0 (hiS rfl) Row.len hc4248 (hr4246.subok hk4250) rfl fun rw4251 A4253 c4254 a w hz hd4255 hc4256 hS => ?_
                obtain ⟨zs4252, hzm⟩ : ∃ z, z = sub row4245 (0 : Int) (w64 ((w64 ((2 : Int) * (x2229.length : Int))) - (2 : Int))) := ⟨_, rfl⟩
                replace hM := lt_to hzm hM
                have hr4257 := hr4246.sub (0 : Int) (w64 ((w64 ((2 : Int) * (x2229.length : Int))) - (2 : Int))) (w64 ((w64 ((2 : Int) * (x2229.length : Int))) - (2 : Int))) rfl
                rw [← hz, ← hzm] at hr4257; clear hz hzm
                refine st1 hS (ovE (v' := .int .i64 (zs4252.length : Int)) (lenV rfl Try.runUnderlying68) (by rw [hr4257.len])) rfl fun a w hS => ?_
                refine st1 hS (mv rfl) rfl fun a w hS => ?_
                refine wpList_nil ?_
                refine then_n ?_
                refine wp_block ?_
                refine s_loopJ (fun k4310 a w => ∃ (out4306 : (List Int)) (f4307 : Frag) (v4309 : Int), Ss 109 [] [(9, .slice A760 out4306.length c761), (87, .slice A4253 rw4251.length c4254), (88, .int .i64 (zs4252.length : Int)), (89, .int .i64 v4309)] H [f4307, p4238] F a w ∧ (Vec 3 (ci .i64) 1 A760 out4306 c761 f4307) ∧ (huff_Lengths.l7 K zs4252 k4310 out4306 v4309).wp kr kp) K ?_ ?_ ?_
                · exact ⟨out778, f779, (0 : Int), hS.to [1, 0] (by kernel_rfl) ⟨rfl, rfl, rfl, rfl, trivial⟩, hV780, hM⟩
                · intro a w hI; obtain ⟨_, _, _, _, _, hM⟩ := hI; exact hM
                · intro k4310 a w hI J4353 hJ4353
                  obtain ⟨out4306, f4307, v4309, hS, hV4308, hM⟩ := hI
                  rw [huff_Lengths.l7] at hM
                  refine wp_seq ?_
                  refine wp_region_list ?_
                  refine st1 hS (bin rfl rfl rfl) rfl fun a w hS => ?_
                  refine wpList_nil ?_
                  refine then_n ?_
                  refine wp_seq ?_
                  refine s_cond hS rfl hM (fun hb4311 hM => ?_) (fun hb4311 hM => ?_)
                  · refine wp_skip ?_
                    refine then_n ?_
                    refine wp_seq ?_
                    refine wp_block ?_
                    refine wp_seq ?_
                    refine wp_region_list ?_
                    obtain ⟨hk4312, hM⟩ := wp_chk hM
                    refine st1 hS (ixV rfl rfl Try.runUnderlying68 Try.sizeOf70 (hd4255 _ _ _ (hp4247.rd (i := 1) rfl)) Row.len rfl (hr4257.inb hk4312)) rfl fun a w hS => ?_
                    obtain ⟨A4313, c4314, hw4317, hp4315, hc4316⟩ := hr4257.get hk4312
                    refine st1 hS (ovE (ldVA rfl (hd4255 _ _ _ (hp4247.rd (i := 1) rfl)) Row.len (hr4257.inb hk4312) Try.isAgg70 Try.sizeOf70 rfl) (congrArg (fun l => Value.agg ⟨l⟩) hw4317)) rfl fun a w hS => ?_
                    refine alc ([.int .i64 (0 : Int), .slice none 0 0]) hS Try.zeroValue70 rfl rfl fun w b4318 f4319 hB4320 hS => ?_
                    obtain ⟨f4321, hV4322, hS⟩ := hS.nilV 3 (ci .i64) 1
                    refine stB 1 ([.int .i64 ((rd zs4252 v4309).often_), .slice A4313 ((rd zs4252 v4309).symbols_).length c4314]) ([.int .i64 ((rd zs4252 v4309).often_), .slice A4313 ((rd zs4252 v4309).symbols_).length c4314]) hS rfl rfl hB4320 rfl rfl Try.sizeOf70 (by simp [Value.oneCell']) (Nat.le_of_ble_eq_true rfl) rfl fun w f4323 hB4324 hS => ?_
                    refine wpList_nil ?_
                    refine then_n ?_
                    refine wp_seq ?_
                    refine wp_region_list ?_
                    refine st1 hS (fad rfl Try.runUnderlying70 rfl Try.sizeOf22 rfl) rfl fun a w hS => ?_
                    refine st1 hS (ldb 1 rfl hB4324 rfl rfl Try.isAgg22) rfl fun a w hS => ?_
                    refine st1 hS (lenV rfl Try.runUnderlying22) rfl fun a w hS => ?_
                    refine st1 hS (mv rfl) rfl fun a w hS => ?_
                    refine wpList_nil ?_
                    refine then_n ?_
                    refine wp_block ?_
                    refine s_loopJ (fun k4343 a w => ∃ (out4339 : (List Int)) (f4340 : Frag) (v4342 : Int), Ss 109 [] [(9, .slice A760 out4339.length c761), (87, .slice A4253 rw4251.length c4254), (88, .int .i64 (zs4252.length : Int)), (89, .int .i64 v4309), (94, .slice A4313 ((rd zs4252 v4309).symbols_).length c4314), (95, .int .i64 (((rd zs4252 v4309).symbols_).length : Int)), (96, .int .i64 v4342)] H [f4340, p4238] F a w ∧ (Vec 3 (ci .i64) 1 A760 out4339 c761 f4340) ∧ (huff_Lengths.l8 K (huff_Lengths.l7 K zs4252 k4310) zs4252 v4309 k4343 out4339 v4342).wp kr kp) K ?_ ?_ ?_
                    · exact ⟨out4306, f4307, (0 : Int), hS.to [2, 3] (by kernel_rfl) ⟨rfl, rfl, rfl, rfl, rfl, rfl, rfl, trivial⟩, hV4308, hM⟩
                    · intro a w hI; obtain ⟨_, _, _, _, _, hM⟩ := hI; exact hM
                    · intro k4343 a w hI J4352 hJ4352
                      obtain ⟨out4339, f4340, v4342, hS, hV4341, hM⟩ := hI
                      rw [huff_Lengths.l8] at hM
                      refine wp_seq ?_
                      refine wp_region_list ?_
                      refine st1 hS (bin rfl rfl rfl) rfl fun a w hS => ?_
                      refine wpList_nil ?_
                      refine then_n ?_
                      refine wp_seq ?_
                      refine s_cond hS rfl hM (fun hb4344 hM => ?_) (fun hb4344 hM => ?_)
                      · refine wp_skip ?_
                        refine then_n ?_
                        refine wp_seq ?_
                        refine wp_block ?_
                        refine wp_seq ?_
                        refine wp_region_list ?_
                        obtain ⟨hk4345, hM⟩ := wp_chk hM
                        refine st1 hS (ixV rfl rfl Try.runUnderlying22 Try.sizeOf3 (hp4315.rd (i := 1) rfl) (fun _ => rfl) rfl hk4345) rfl fun a w hS => ?_
                        refine st1 hS (ldV0 rfl (hp4315.rd (i := 1) rfl) (fun _ => rfl) hk4345 rfl Try.isAgg3) rfl fun a w hS => ?_
                        refine st1x (v := Value.int .i64) hS (asg rfl) rfl fun s4346 a w hz hS => ?_
                        have hM := lt_to hz hM; clear hz
                        refine wpList_nil ?_
                        refine then_n ?_
                        refine wp_region_list ?_
                        refine st1 hS (mv rfl) rfl fun a w hS => ?_
                        refine st1 hS (mv rfl) rfl fun a w hS => ?_
                        obtain ⟨hk4347, hM⟩ := wp_chk hM
                        refine st1 hS (ixV rfl rfl Try.runUnderlying22 Try.sizeOf3 (hV4341.rd (i := 0) rfl) (fun _ => rfl) rfl hk4347) rfl fun a w hS => ?_
                        refine st1 hS (ldV0 rfl (hV4341.rd (i := 0) rfl) (fun _ => rfl) hk4347 rfl Try.isAgg3) rfl fun a w hS => ?_
                        refine st1 hS (bin rfl rfl rfl) rfl fun a w hS => ?_
                        refine st1 hS (ixV rfl rfl Try.runUnderlying22 Try.sizeOf3 (hV4341.rd (i := 0) rfl) (fun _ => rfl) rfl hk4347) rfl fun a w hS => ?_
                        refine stV 0 0 ((w64 ((rd out4339 s4346) + (1 : Int)))) hS rfl rfl hV4341 rfl Try.sizeOf3 (one_t3 (w64 ((rd out4339 s4346) + (1 : Int)))) (fun _ => rfl) hk4347 rfl rfl fun zs4350 w f4348 hz hz4351 hV4349 hS => ?_
                        have hM := lt_to hz hM; clear hz
                        replace hS := hS.re 9 (u := .slice A760 out4339.length c761) (v := .slice A760 zs4350.length c761) rfl (by rw [hz4351])
                        replace hS := hS.re 100 (u := .slice A760 out4339.length c761) (v := .slice A760 zs4350.length c761) rfl (by rw [hz4351])
                        refine wpList_nil ?_
                        refine blk_n (then_n ?_)
                        refine wp_region_list ?_
                        refine st1 hS (bin rfl rfl rfl) rfl fun a w hS => ?_
                        refine st1 hS (mv rfl) rfl fun a w hS => ?_
                        refine wpList_nil ?_
                        refine then_n ?_
                        exact hJ4352 _ _ ⟨zs4350, f4348, (w64 (v4342 + (1 : Int))), hS.to [0, 1] (by kernel_rfl) ⟨rfl, rfl, rfl, rfl, rfl, rfl, rfl, trivial⟩, hV4349, hM⟩
                      · refine wp_exit ?_
                        refine then_ex (then_ex (blk_same (blk_n (then_n ?_))))
                        refine wp_region_list ?_
                        refine st1 hS (bin rfl rfl rfl) rfl fun a w hS => ?_
                        refine st1 hS (mv rfl) rfl fun a w hS => ?_
                        refine wpList_nil ?_
                        refine then_n ?_
                        exact hJ4353 _ _ ⟨out4339, f4340, (w64 (v4309 + (1 : Int))), hS.to [0, 1] (by kernel_rfl) ⟨rfl, rfl, rfl, rfl, trivial⟩, hV4341, hM⟩
                  · refine wp_exit ?_
                    refine then_ex (then_ex (blk_same (then_n ?_)))
                    refine wp_seq ?_
                    refine wp_region_list ?_
                    refine st1 hS (mv rfl) rfl fun a w hS => ?_
                    refine st1 hS (asg rfl) rfl fun a w hS => ?_
                    refine st1 hS (asg rfl) rfl fun a w hS => ?_
                    refine wpList_nil ?_
                    refine then_n ?_
                    refine wp_ret ?_
                    exact s_ret (rs := [4, 5]) hS rfl rfl (hret A760 c761 out4306 f4307 (0 : Int) w hM hV4308 (hS.st.pick [0] (by kernel_rfl)))

theorem bits_New_c {H : Imm} {F : List Frag} {w : World} {R : Ending → World → Prop} {kr : Unit → Prop} {kp : Value → Prop} (hG : Gl H) (K : Nat) (s4366 : List UInt8)
    (hS : St w H [] F) (hm : (bits_New.m K s4366).wp kr kp)
    (hret : ∀ (b4370 : Nat) (f4371 : Frag) (w : World), kr () → (Blk f4371 b4370 ([.int .i64 (0 : Int), str s4366]) 63) → St w H [f4371] F → R (.returned (ptr b4370 0)) w) :
    Calls Try.prog 16 ⟨[str s4366]⟩ w R := by
  refine enter Try.func16 rfl Try.ntmps16 rfl hS fun a w hS => ?_
  have hM := hm; clear hm
  rw [bits_New.m] at hM
  refine wp_seq ?_
  refine wp_region_list ?_
  refine st1 hS (asg rfl) rfl fun a w hS => ?_
  refine wpList_nil ?_
  refine then_n ?_
  refine wp_seq ?_
  refine wp_region_list ?_
  refine st1 hS (mv rfl) rfl fun a w hS => ?_
  refine st1 hS (bld ([.int .i64 (0 : Int), str s4366]) [(0, 1), (1, 1)] Try.zeroValue63 Try.runUnderlying63 (by intro w; simp [Try.sizeOf48, Try.sizeOf9]) rfl rfl) rfl fun a w hS => ?_
  refine bx ([.int .i64 (0 : Int), str s4366]) hS rfl rfl rfl fun w b4367 f4368 hB4369 hS => ?_
  refine st1 hS (asg rfl) rfl fun a w hS => ?_
  refine wpList_nil ?_
  refine then_n ?_
  refine wp_ret ?_
  exact s_ret (rs := [2]) hS rfl rfl (hret b4367 f4368 w hM hB4369 (hS.st.pick [0] (by kernel_rfl)))

theorem bits_Reader_Bits_c {H : Imm} {F : List Frag} {w : World} {R : Ending → World → Prop} {kr : (Int × Int × Int) → Prop} {kp : Value → Prop} (hG : Gl H) (K : Nat) (r4412 : T_bits_Reader) (n_4416 : Int) (b4413 : Nat) (f4414 : Frag) (hB4415 : Blk f4414 b4413 ([.int .i64 r4412.place_.at_, str r4412.text_]) 63)
    (hS : St w H [f4414] F) (hm : (bits_Reader_Bits.m K r4412 n_4416).wp kr kp)
    (hret : ∀ (x4440 : Int) (x4441 : Int) (at_4442 : Int) (f4443 : Frag) (w : World), kr (x4440, x4441, at_4442) → (Blk f4443 b4413 ([.int .i64 at_4442, str r4412.text_]) 63) → St w H [f4443] F → R (.returned (.tuple ⟨[.int .u32 x4440, .int .i64 x4441]⟩)) w) :
    Calls Try.prog 28 ⟨[ptr b4413 0, .int .i64 n_4416]⟩ w R := by
  refine enter Try.func28 rfl Try.ntmps28 rfl hS fun a w hS => ?_
  have hM := hm; clear hm
  rw [bits_Reader_Bits.m] at hM
  refine wp_seq ?_
  refine wp_region_list ?_
  refine st1 hS (asg rfl) rfl fun a w hS => ?_
  refine st1 hS (asg rfl) rfl fun a w hS => ?_
  refine wpList_nil ?_
  refine then_n ?_
  refine wp_seq ?_
  refine wp_block ?_
  refine wp_seq ?_
  refine wp_region_list ?_
  refine st1 hS (mv rfl) rfl fun a w hS => ?_
  refine st1 hS (eqNil rfl rfl Try.runUnderlying33) rfl fun a w hS => ?_
  refine st1 hS (mv rfl) rfl fun a w hS => ?_
  refine st1g hS rfl rfl rfl rfl (mv rfl) rfl fun a w hS => ?_
  refine st1g hS rfl rfl rfl rfl (bin rfl rfl rfl) rfl fun a w hS => ?_
  refine st1 hS (pk rfl rfl rfl) rfl fun a w hS => ?_
  refine st1 hS (mv rfl) rfl fun a w hS => ?_
  refine g_op 2 false 16 (b := (decide (n_4416 < (0 : Int)))) (r := (decide (n_4416 > (32 : Int)))) hS rfl rfl rfl rfl rfl rfl rfl (fun hb a w hS K hK => ?_) rfl fun a w hS => ?_
  · refine st1g hS rfl rfl rfl hb (mv rfl) rfl fun a w hS => ?_
    refine st1g hS rfl rfl rfl hb (bin rfl rfl rfl) rfl fun a w hS => ?_
    exact wpList_nil (hK _ _ (hS.up 2 rfl rfl))
  refine st1x (v := Value.bool) hS (asg rfl) rfl fun v4417 a w hz hS => ?_
  have hM := lt_to hz hM; clear hz
  refine wpList_nil ?_
  refine then_n ?_
  refine s_cond hS rfl hM (fun hb4418 hM => ?_) (fun hb4418 hM => ?_)
  · refine wp_seq ?_
    refine wp_region_list ?_
    refine st1 hS (asg rfl) rfl fun a w hS => ?_
    refine st1 hS (asg rfl) rfl fun a w hS => ?_
    refine wpList_nil ?_
    refine then_n ?_
    refine wp_ret ?_
    refine blk_ret (then_ret ?_)
    exact s_ret (rs := [4, 5]) hS rfl rfl (hret (0 : Int) (1 : Int) r4412.place_.at_ f4414 w hM hB4415 (hS.st.pick [0] (by kernel_rfl)))
  · refine wp_seq ?_
    obtain ⟨v4419, hz4420⟩ : ∃ x, x = (decide (n_4416 > (w64 ((w64 ((8 : Int) * (r4412.text_.length : Int))) - r4412.place_.at_)))) := ⟨_, rfl⟩
    replace hM := lt_to hz4420 hM
    refine draw_begin (vals := [some (.int .i64 n_4416), some (ptr b4413 0), some (ptr b4413 0), some (ptr b4413 1), some (str r4412.text_), some (.int .i64 (r4412.text_.length : Int)), some (.int .i64 (w64 ((8 : Int) * (r4412.text_.length : Int)))), some (ptr b4413 0), some (ptr b4413 0), some (ptr b4413 0), some (ptr b4413 0), some (.int .i64 r4412.place_.at_), some (.int .i64 (w64 ((w64 ((8 : Int) * (r4412.text_.length : Int))) - r4412.place_.at_))), some (.bool (decide (n_4416 > (w64 ((w64 ((8 : Int) * (r4412.text_.length : Int))) - r4412.place_.at_))))), some (.bool v4419)]) hS mixed rfl ?_
    intro l w ho hcl hA hst
    refine phaseE (vals := [some (.int .i64 n_4416), some (ptr b4413 0), some (ptr b4413 0), some (ptr b4413 1), some (str r4412.text_), some (.int .i64 (r4412.text_.length : Int)), some (.int .i64 (w64 ((8 : Int) * (r4412.text_.length : Int)))), some (ptr b4413 0), some (ptr b4413 0), some (ptr b4413 0), some (ptr b4413 0), some (.int .i64 r4412.place_.at_), some (.int .i64 (w64 ((w64 ((8 : Int) * (r4412.text_.length : Int))) - r4412.place_.at_))), some (.bool (decide (n_4416 > (w64 ((w64 ((8 : Int) * (r4412.text_.length : Int))) - r4412.place_.at_))))), some (.bool v4419)]) [] [0, 1, 2, 3, 4, 5, 6, 7, 8, 9, 10, 11, 12, 13, 14] rfl rfl rfl (by exact ⟨nR rfl rfl rfl rfl rfl (by exact ovE (mv rfl) rfl), nR rfl rfl rfl rfl rfl (by exact ovE (mv rfl) rfl), nR rfl rfl rfl rfl rfl (by exact ovE (nck rfl) rfl), nR rfl rfl rfl rfl rfl (by exact ovE (fad rfl Try.runUnderlying63 rfl Try.sizeOf9 rfl) rfl), nR rfl rfl rfl rfl rfl (by exact ovE (ldb 0 rfl hB4415 rfl rfl Try.isAgg9) rfl), nR rfl rfl rfl rfl rfl (by exact ovE (lenS rfl Try.runUnderlying9) rfl), nR rfl rfl rfl rfl rfl (by exact ovE (bin rfl rfl rfl) rfl), nR rfl rfl rfl rfl rfl (by exact ovE (mv rfl) rfl), nR rfl rfl rfl rfl rfl (by exact ovE (nck rfl) rfl), nR rfl rfl rfl rfl rfl (by exact ovE (fad rfl Try.runUnderlying63 rfl Try.sizeOf48 rfl) rfl), nR rfl rfl rfl rfl rfl (by exact ovE (fad rfl Try.runUnderlying48 rfl Try.sizeOf3 rfl) rfl), nR rfl rfl rfl rfl rfl (by exact ovE (ldb 0 rfl hB4415 rfl rfl Try.isAgg3) rfl), nR rfl rfl rfl rfl rfl (by exact ovE (bin rfl rfl rfl) rfl), nR rfl rfl rfl rfl rfl (by exact ovE (bin rfl rfl rfl) rfl), nR rfl rfl rfl rfl rfl (by exact ovE (asg rfl) (congrArg (Value.bool) hz4420.symm)), trivial⟩) (fun a w hS => ?_) ho hcl (fun m hm => (List.not_mem_nil hm).elim) hA hst
    replace hS := hS.env2 (e' := [(0, ptr b4413 0), (1, .int .i64 n_4416), (20, .bool v4419)]) ⟨rfl, rfl, rfl, trivial⟩
    refine then_n ?_
    refine s_cond hS rfl hM (fun hb4421 hM => ?_) (fun hb4421 hM => ?_)
    · refine wp_seq ?_
      refine wp_region_list ?_
      refine st1 hS (asg rfl) rfl fun a w hS => ?_
      refine st1 hS (asg rfl) rfl fun a w hS => ?_
      refine wpList_nil ?_
      refine then_n ?_
      refine wp_ret ?_
      refine blk_ret (then_ret ?_)
      exact s_ret (rs := [4, 5]) hS rfl rfl (hret (0 : Int) (2 : Int) r4412.place_.at_ f4414 w hM hB4415 (hS.st.pick [0] (by kernel_rfl)))
    · refine wp_skip ?_
      refine blk_n (then_n ?_)
      refine wp_seq ?_
      refine wp_region_list ?_
      refine st1 hS (asg rfl) rfl fun a w hS => ?_
      refine wpList_nil ?_
      refine then_n ?_
      refine wp_seq ?_
      refine wp_region_list ?_
      refine st1 hS (mv rfl) rfl fun a w hS => ?_
      refine st1 hS (nck rfl) rfl fun a w hS => ?_
      refine st1 hS (fad rfl Try.runUnderlying63 rfl Try.sizeOf48 rfl) rfl fun a w hS => ?_
      refine st1 hS (fad rfl Try.runUnderlying48 rfl Try.sizeOf3 rfl) rfl fun a w hS => ?_
      refine st1 hS (ldb 0 rfl hB4415 rfl rfl Try.isAgg3) rfl fun a w hS => ?_
      refine st1 hS (quo rfl rfl rfl) rfl fun a w hS => ?_
      refine st1x (v := Value.int .i64) hS (asg rfl) rfl fun first4422 a w hz hS => ?_
      have hM := lt_to hz hM; clear hz
      refine wpList_nil ?_
      refine then_n ?_
      refine seq_joinJ (fun a w => ∃ (v4432 : Int), Ss 93 [] [(0, ptr b4413 0), (1, .int .i64 n_4416), (6, .int .u64 v4432)] H [f4414] F a w ∧ (bits_Reader_Bits.j2 K r4412 n_4416 v4432).wp kr kp) (fun J4433 hJ4433 => ?_) ?_
      · refine wp_seq ?_
        refine wp_region_list ?_
        refine st1 hS (asg rfl) rfl fun a w hS => ?_
        refine wpList_nil ?_
        refine then_n ?_
        refine wp_block ?_
        refine s_loopJ (fun k4425 a w => ∃ (v4423 : Int) (i4424 : Int), Ss 93 [] [(0, ptr b4413 0), (1, .int .i64 n_4416), (6, .int .u64 v4423), (7, .int .i64 first4422), (8, .int .i64 i4424)] H [f4414] F a w ∧ (bits_Reader_Bits.l1 K r4412 n_4416 first4422 k4425 v4423 i4424).wp kr kp) K ?_ ?_ ?_
        · exact ⟨(0 : Int), (0 : Int), hS.to [0] (by kernel_rfl) ⟨rfl, rfl, rfl, rfl, rfl, trivial⟩, hM⟩
        · intro a w hI; obtain ⟨_, _, _, hM⟩ := hI; exact hM
        · intro k4425 a w hI J4431 hJ4431
          obtain ⟨v4423, i4424, hS, hM⟩ := hI
          rw [bits_Reader_Bits.l1] at hM
          refine wp_seq ?_
          refine wp_seq ?_
          refine wp_region_list ?_
          refine st1 hS (mv rfl) rfl fun a w hS => ?_
          refine st1 hS (mv rfl) rfl fun a w hS => ?_
          refine st1 hS (bin rfl rfl rfl) rfl fun a w hS => ?_
          refine st1 hS (bin rfl rfl rfl) rfl fun a w hS => ?_
          refine st1 hS (mv rfl) rfl fun a w hS => ?_
          refine st1 hS (nck rfl) rfl fun a w hS => ?_
          refine st1 hS (fad rfl Try.runUnderlying63 rfl Try.sizeOf48 rfl) rfl fun a w hS => ?_
          refine st1 hS (fad rfl Try.runUnderlying48 rfl Try.sizeOf3 rfl) rfl fun a w hS => ?_
          refine st1 hS (ldb 0 rfl hB4415 rfl rfl Try.isAgg3) rfl fun a w hS => ?_
          refine st1 hS (mv rfl) rfl fun a w hS => ?_
          refine st1 hS (bin rfl rfl rfl) rfl fun a w hS => ?_
          refine st1 hS (bin rfl rfl rfl) rfl fun a w hS => ?_
          refine wpList_nil ?_
          refine then_n ?_
          refine s_cond hS rfl hM (fun hb4426 hM => ?_) (fun hb4426 hM => ?_)
          · refine wp_skip ?_
            refine then_n ?_
            refine wp_seq ?_
            refine wp_block ?_
            refine wp_region_list ?_
            refine st1 hS (mv rfl) rfl fun a w hS => ?_
            refine st1 hS (mv rfl) rfl fun a w hS => ?_
            refine st1 hS (nck rfl) rfl fun a w hS => ?_
            refine st1 hS (fad rfl Try.runUnderlying63 rfl Try.sizeOf9 rfl) rfl fun a w hS => ?_
            refine st1 hS (ldb 0 rfl hB4415 rfl rfl Try.isAgg9) rfl fun a w hS => ?_
            refine st1 hS (mv rfl) rfl fun a w hS => ?_
            refine st1 hS (mv rfl) rfl fun a w hS => ?_
            refine st1 hS (bin rfl rfl rfl) rfl fun a w hS => ?_
            obtain ⟨hk4427, hM⟩ := wp_chk hM
            refine st1 hS (ixs rfl rfl Try.runUnderlying9 hk4427) rfl fun a w hS => ?_
            refine st1 hS (cvi rfl Try.runUnderlying5 Try.runUnderlying77) rfl fun a w hS => ?_
            refine st1 hS (mv rfl) rfl fun a w hS => ?_
            refine st1 hS (bin rfl rfl rfl) rfl fun a w hS => ?_
            obtain ⟨hk4428, hM⟩ := wp_chk hM
            refine st1 hS (shl rfl rfl hk4428) rfl fun a w hS => ?_
            refine st1 hS (bin rfl rfl rfl) rfl fun a w hS => ?_
            refine st1x (v := Value.int .u64) hS (asg rfl) rfl fun v4429 a w hz hS => ?_
            have hM := lt_to hz hM; clear hz
            refine wpList_nil ?_
            refine blk_n (then_n ?_)
            refine wp_region_list ?_
            refine st1 hS (mv rfl) rfl fun a w hS => ?_
            refine st1 hS (bin rfl rfl rfl) rfl fun a w hS => ?_
            refine st1x (v := Value.int .i64) hS (asg rfl) rfl fun i4430 a w hz hS => ?_
            have hM := lt_to hz hM; clear hz
            refine wpList_nil ?_
            refine then_n ?_
            exact hJ4431 _ _ ⟨v4429, i4430, hS.to [0] (by kernel_rfl) ⟨rfl, rfl, rfl, rfl, rfl, trivial⟩, hM⟩
          · refine wp_exit ?_
            refine then_ex (then_ex (blk_same (then_n ?_)))
            exact hJ4433 _ _ ⟨v4423, hS.to [0] (by kernel_rfl) ⟨rfl, rfl, rfl, trivial⟩, hM⟩
      · intro a w hI
        obtain ⟨v4432, hS, hM⟩ := hI
        rw [bits_Reader_Bits.j2] at hM
        refine wp_seq ?_
        refine wp_region_list ?_
        refine st1 hS (mv rfl) rfl fun a w hS => ?_
        refine st1 hS (mv rfl) rfl fun a w hS => ?_
        refine st1 hS (nck rfl) rfl fun a w hS => ?_
        refine st1 hS (fad rfl Try.runUnderlying63 rfl Try.sizeOf48 rfl) rfl fun a w hS => ?_
        refine st1 hS (fad rfl Try.runUnderlying48 rfl Try.sizeOf3 rfl) rfl fun a w hS => ?_
        refine st1 hS (ldb 0 rfl hB4415 rfl rfl Try.isAgg3) rfl fun a w hS => ?_
        refine st1 hS (bin rfl rfl rfl) rfl fun a w hS => ?_
        obtain ⟨hk4434, hM⟩ := wp_chk hM
        refine st1 hS (shr rfl rfl hk4434) rfl fun a w hS => ?_
        refine st1x (v := Value.int .u64) hS (asg rfl) rfl fun v4435 a w hz hS => ?_
        have hM := lt_to hz hM; clear hz
        refine wpList_nil ?_
        refine then_n ?_
        refine wp_seq ?_
        refine wp_region_list ?_
        refine st1 hS (mv rfl) rfl fun a w hS => ?_
        refine st1 hS (nck rfl) rfl fun a w hS => ?_
        refine st1 hS (fad rfl Try.runUnderlying63 rfl Try.sizeOf48 rfl) rfl fun a w hS => ?_
        refine st1 hS (fad rfl Try.runUnderlying48 rfl Try.sizeOf3 rfl) rfl fun a w hS => ?_
        refine st1 hS (ldb 0 rfl hB4415 rfl rfl Try.isAgg3) rfl fun a w hS => ?_
        refine st1 hS (mv rfl) rfl fun a w hS => ?_
        refine st1 hS (bin rfl rfl rfl) rfl fun a w hS => ?_
        refine st1 hS (nck rfl) rfl fun a w hS => ?_
        refine st1 hS (fad rfl Try.runUnderlying63 rfl Try.sizeOf48 rfl) rfl fun a w hS => ?_
        refine st1 hS (fad rfl Try.runUnderlying48 rfl Try.sizeOf3 rfl) rfl fun a w hS => ?_
        refine sto 0 ([.int .i64 (w64 (r4412.place_.at_ + n_4416)), str r4412.text_]) hS rfl rfl hB4415 rfl rfl rfl rfl Try.sizeOf3 fun w f4436 hB4437 hS => ?_
        refine wpList_nil ?_
        refine then_n ?_
        refine wp_seq ?_
        refine wp_region_list ?_
        refine st1 hS (mv rfl) rfl fun a w hS => ?_
        refine st1 hS (mv rfl) rfl fun a w hS => ?_
        obtain ⟨hk4438, hM⟩ := wp_chk hM
        refine st1 hS (shl rfl rfl hk4438) rfl fun a w hS => ?_
        refine st1 hS (bin rfl rfl rfl) rfl fun a w hS => ?_
        refine st1 hS (bin rfl rfl rfl) rfl fun a w hS => ?_
        refine st1 hS (cvi rfl Try.runUnderlying77 Try.runUnderlying53) rfl fun a w hS => ?_
        refine st1x (v := Value.int .u32) hS (asg rfl) rfl fun v4439 a w hz hS => ?_
        have hM := lt_to hz hM; clear hz
        refine st1 hS (asg rfl) rfl fun a w hS => ?_
        refine wpList_nil ?_
        refine then_n ?_
        refine wp_ret ?_
        exact s_ret (rs := [4, 5]) hS rfl rfl (hret v4439 (0 : Int) (w64 (r4412.place_.at_ + n_4416)) f4436 w hM hB4437 (hS.st.pick [0] (by kernel_rfl)))

theorem huff_Table_Next_c {H : Imm} {F : List Frag} {w : World} {R : Ending → World → Prop} {kr : (Int × Int × Int) → Prop} {kp : Value → Prop} (hG : Gl H) (K : Nat) (t4388 : T_huff_Table) (r4397 : T_bits_Reader) (b4389 : Nat) (f4390 : Frag) (A4393 : Option Addr) (c4394 : Nat) (f4395 : Frag) (b4398 : Nat) (f4399 : Frag) (hB4391 : Blk f4390 b4389 ((t4388.counts_.flatMap (ci .i64)) ++ [.slice A4393 t4388.symbols_.length c4394]) 61) (hl4392 : t4388.counts_.length = 16) (hV4396 : Vec 3 (ci .i64) 1 A4393 t4388.symbols_ c4394 f4395) (hB4400 : Blk f4399 b4398 ([.int .i64 r4397.place_.at_, str r4397.text_]) 63)
    (hS : St w H [f4390, f4395, f4399] F) (hm : (huff_Table_Next.m K t4388 r4397).wp kr kp)
    (hret : ∀ (x4504 : Int) (x4505 : Int) (at_4506 : Int) (f4507 : Frag) (w : World), kr (x4504, x4505, at_4506) → (Blk f4507 b4398 ([.int .i64 at_4506, str r4397.text_]) 63) → St w H [f4507, f4390, f4395] F → R (.returned (.tuple ⟨[.int .i64 x4504, .int .i64 x4505]⟩)) w) :
    Calls Try.prog 17 ⟨[ptr b4389 0, ptr b4398 0]⟩ w R := by
  refine enter Try.func17 rfl Try.ntmps17 rfl hS fun a w hS => ?_
  have hM := hm; clear hm
  rw [huff_Table_Next.m] at hM
  refine wp_seq ?_
  refine wp_region_list ?_
  refine st1 hS (asg rfl) rfl fun a w hS => ?_
  refine st1 hS (asg rfl) rfl fun a w hS => ?_
  refine wpList_nil ?_
  refine then_n ?_
  refine wp_seq ?_
  refine wp_seq ?_
  refine wp_region_list ?_
  refine st1 hS (mv rfl) rfl fun a w hS => ?_
  refine st1 hS (eqNil rfl rfl Try.runUnderlying30) rfl fun a w hS => ?_
  refine st1 hS (mv rfl) rfl fun a w hS => ?_
  refine st1g hS rfl rfl rfl rfl (mv rfl) rfl fun a w hS => ?_
  refine st1g hS rfl rfl rfl rfl (eqNil rfl rfl Try.runUnderlying33) rfl fun a w hS => ?_
  refine st1 hS (pk rfl rfl rfl) rfl fun a w hS => ?_
  refine wpList_nil ?_
  refine then_n ?_
  refine s_condF hS rfl ?_
  refine wp_skip ?_
  refine then_n ?_
  refine wp_seq ?_
  refine wp_region_list ?_
  refine st1 hS (mv rfl) rfl fun a w hS => ?_
  refine st1 hS (nck rfl) rfl fun a w hS => ?_
  refine st1 hS (ldbA 2 rfl hB4400 rfl ([.int .i64 r4397.place_.at_, str r4397.text_]) rfl rfl Try.isAgg63 Try.sizeOf63) rfl fun a w hS => ?_
  refine alc ([.int .i64 (0 : Int), str ([] : List UInt8)]) hS Try.zeroValue63 rfl rfl fun w b4401 f4402 hB4403 hS => ?_
  refine stB 0 ([.int .i64 r4397.place_.at_, str r4397.text_]) ([.int .i64 r4397.place_.at_, str r4397.text_]) hS rfl rfl hB4403 rfl rfl Try.sizeOf63 (by simp [Value.oneCell']) (Nat.le_of_ble_eq_true rfl) rfl fun w f4404 hB4405 hS => ?_
  refine wpList_nil ?_
  refine then_n ?_
  refine wp_seq ?_
  refine wp_region_list ?_
  refine st1 hS (asg rfl) rfl fun a w hS => ?_
  refine st1 hS (asg rfl) rfl fun a w hS => ?_
  refine st1 hS (asg rfl) rfl fun a w hS => ?_
  refine wpList_nil ?_
  refine then_n ?_
  refine seq_joinJ (fun a w => ∃ (at_4498 : Int) (f4499 : Frag), Ss 81 [] [(1, ptr b4398 0), (6, ptr b4401 0)] H [f4499, f4390, f4395, f4404] F a w ∧ (Blk f4499 b4398 ([.int .i64 at_4498, str r4397.text_]) 63) ∧ (huff_Table_Next.j2 K r4397 at_4498).wp kr kp) (fun J4501 hJ4501 => ?_) ?_
  · refine wp_seq ?_
    refine wp_region_list ?_
    refine st1 hS (asg rfl) rfl fun a w hS => ?_
    refine wpList_nil ?_
    refine then_n ?_
    refine wp_block ?_
    refine s_loopJ (fun k4477 a w => ∃ (at_4470 : Int) (f4471 : Frag) (code4473 : Int) (first4474 : Int) (passed4475 : Int) (n_4476 : Int), Ss 81 [] [(0, ptr b4389 0), (1, ptr b4398 0), (6, ptr b4401 0), (7, .int .i64 code4473), (8, .int .i64 first4474), (9, .int .i64 passed4475), (10, .int .i64 n_4476)] H [f4471, f4390, f4395, f4404] F a w ∧ (Blk f4471 b4398 ([.int .i64 at_4470, str r4397.text_]) 63) ∧ (huff_Table_Next.l1 K t4388 r4397 k4477 at_4470 code4473 first4474 passed4475 n_4476).wp kr kp) K ?_ ?_ ?_
    · exact ⟨r4397.place_.at_, f4399, (0 : Int), (0 : Int), (0 : Int), (1 : Int), hS.to [3, 1, 2, 0] (by kernel_rfl) ⟨rfl, rfl, rfl, rfl, rfl, rfl, rfl, trivial⟩, hB4400, hM⟩
    · intro a w hI; obtain ⟨_, _, _, _, _, _, _, _, hM⟩ := hI; exact hM
    · intro k4477 a w hI J4497 hJ4497
      obtain ⟨at_4470, f4471, code4473, first4474, passed4475, n_4476, hS, hB4472, hM⟩ := hI
      rw [huff_Table_Next.l1] at hM
      refine wp_seq ?_
      refine wp_seq ?_
      refine wp_region_list ?_
      refine st1 hS (mv rfl) rfl fun a w hS => ?_
      refine st1 hS (mv rfl) rfl fun a w hS => ?_
      refine st1 hS (nck rfl) rfl fun a w hS => ?_
      refine st1 hS (fad rfl Try.runUnderlying61 rfl Try.sizeOf22 rfl) rfl fun a w hS => ?_
      refine st1 hS (ldP 1 rfl hB4391 rfl (by rfl) (flat_ln (g := (ci .i64)) (sz := 1) (fun _ => rfl) hl4392) Try.isAgg22) rfl fun a w hS => ?_
      refine st1 hS (lenV rfl Try.runUnderlying22) rfl fun a w hS => ?_
      refine st1 hS (bin rfl rfl rfl) rfl fun a w hS => ?_
      refine wpList_nil ?_
      refine then_n ?_
      refine s_cond hS rfl hM (fun hb4478 hM => ?_) (fun hb4478 hM => ?_)
      · refine wp_skip ?_
        refine then_n ?_
        refine wp_seq ?_
        refine wp_block ?_
        refine wp_seq ?_
        refine wp_region_list ?_
        refine st1 hS (mv rfl) rfl fun a w hS => ?_
        refine s_call hS rfl Try.call28 (bits_Reader_Bits_c hG K (T_bits_Reader.mk (T_bits_place.mk at_4470) r4397.text_) (1 : Int) b4398 f4471 hB4472 (hS.st.part 1 [0, 1, 2, 3] (by kernel_rfl)) (wp_bind hM) (fun x4479 x4480 at_4481 f4482 w hM h4483 hst => s_back hS.ev hst.appF rfl fun hS => ?_))
        replace hS : Ss _ _ _ H [f4482, f4390, f4395, f4404] F _ _ := hS
        refine st1 hS (mv rfl) rfl fun a w hS => ?_
        refine st1 hS (ex rfl rfl) rfl fun a w hS => ?_
        refine st1 hS (ex rfl rfl) rfl fun a w hS => ?_
        refine st1 hS (asg rfl) rfl fun a w hS => ?_
        refine st1 hS (asg rfl) rfl fun a w hS => ?_
        refine wpList_nil ?_
        refine then_n ?_
        refine wp_seq ?_
        refine wp_seq ?_
        refine wp_region_list ?_
        refine st1 hS (mv rfl) rfl fun a w hS => ?_
        refine st1 hS (bin rfl rfl rfl) rfl fun a w hS => ?_
        refine wpList_nil ?_
        refine then_n ?_
        refine s_cond hS rfl hM (fun hb4484 hM => ?_) (fun hb4484 hM => ?_)
        · refine wp_seq ?_
          refine wp_region_list ?_
          refine st1 hS (mv rfl) rfl fun a w hS => ?_
          refine st1 hS (ldbA 3 rfl hB4405 rfl ([.int .i64 r4397.place_.at_, str r4397.text_]) rfl rfl Try.isAgg63 Try.sizeOf63) rfl fun a w hS => ?_
          refine st1 hS (nck rfl) rfl fun a w hS => ?_
          refine stB 0 ([.int .i64 r4397.place_.at_, str r4397.text_]) ([.int .i64 r4397.place_.at_, str r4397.text_]) hS rfl rfl h4483 rfl rfl Try.sizeOf63 (by simp [Value.oneCell']) (Nat.le_of_ble_eq_true rfl) rfl fun w f4485 hB4486 hS => ?_
          refine wpList_nil ?_
          refine then_n ?_
          refine wp_seq ?_
          refine wp_region_list ?_
          refine st1 hS (mv rfl) rfl fun a w hS => ?_
          refine st1 hS (asg rfl) rfl fun a w hS => ?_
          refine st1 hS (asg rfl) rfl fun a w hS => ?_
          refine wpList_nil ?_
          refine then_n ?_
          refine wp_ret ?_
          refine then_ret (blk_ret (then_ret (then_ret (blk_ret (then_ret ?_)))))
          exact s_ret (rs := [4, 5]) hS rfl rfl (hret (0 : Int) x4480 r4397.place_.at_ f4485 w hM hB4486 (hS.st.pick [0, 1, 2] (by kernel_rfl)))
        · refine wp_skip ?_
          refine then_n ?_
          refine wp_seq ?_
          refine wp_region_list ?_
          refine st1 hS (mv rfl) rfl fun a w hS => ?_
          refine st1 hS (shl rfl rfl rfl) rfl fun a w hS => ?_
          refine st1 hS (mv rfl) rfl fun a w hS => ?_
          refine st1 hS (cvi rfl Try.runUnderlying53 Try.runUnderlying3) rfl fun a w hS => ?_
          refine st1 hS (bin rfl rfl rfl) rfl fun a w hS => ?_
          refine st1x (v := Value.int .i64) hS (asg rfl) rfl fun code4487 a w hz hS => ?_
          have hM := lt_to hz hM; clear hz
          refine wpList_nil ?_
          refine then_n ?_
          refine wp_seq ?_
          refine wp_region_list ?_
          refine st1 hS (mv rfl) rfl fun a w hS => ?_
          refine st1 hS (shl rfl rfl rfl) rfl fun a w hS => ?_
          refine st1x (v := Value.int .i64) hS (asg rfl) rfl fun first4488 a w hz hS => ?_
          have hM := lt_to hz hM; clear hz
          refine wpList_nil ?_
          refine then_n ?_
          refine wp_seq ?_
          refine wp_region_list ?_
          refine st1 hS (mv rfl) rfl fun a w hS => ?_
          refine st1 hS (mv rfl) rfl fun a w hS => ?_
          refine st1 hS (nck rfl) rfl fun a w hS => ?_
          refine st1 hS (fad rfl Try.runUnderlying61 rfl Try.sizeOf56 rfl) rfl fun a w hS => ?_
          obtain ⟨hk4489, hM⟩ := wp_chk hM
          refine st1 hS (ixB rfl rfl Try.runUnderlying56 Try.sizeOf3 hk4489) rfl fun a w hS => ?_
          refine st1 hS (ldR (xs := t4388.counts_) (g := (ci .i64)) (pre := []) (post := [.slice A4393 t4388.symbols_.length c4394]) 1 rfl hB4391 rfl (by simp) rfl (fun _ => rfl) (inb_len hl4392 hk4489) rfl Try.isAgg3) rfl fun a w hS => ?_
          refine st1x (v := Value.int .i64) hS (asg rfl) rfl fun k_4490 a w hz hS => ?_
          have hM := lt_to hz hM; clear hz
          refine wpList_nil ?_
          refine then_n ?_
          refine wp_seq ?_
          refine wp_seq ?_
          refine wp_region_list ?_
          refine st1 hS (mv rfl) rfl fun a w hS => ?_
          refine st1 hS (mv rfl) rfl fun a w hS => ?_
          refine st1 hS (bin rfl rfl rfl) rfl fun a w hS => ?_
          refine st1 hS (mv rfl) rfl fun a w hS => ?_
          refine st1 hS (bin rfl rfl rfl) rfl fun a w hS => ?_
          refine wpList_nil ?_
          refine then_n ?_
          refine s_cond hS rfl hM (fun hb4491 hM => ?_) (fun hb4491 hM => ?_)
          · refine wp_seq ?_
            refine wp_region_list ?_
            refine st1 hS (mv rfl) rfl fun a w hS => ?_
            refine st1 hS (nck rfl) rfl fun a w hS => ?_
            refine st1 hS (fad rfl Try.runUnderlying61 rfl Try.sizeOf22 rfl) rfl fun a w hS => ?_
            refine st1 hS (ldP 1 rfl hB4391 rfl (by rfl) (flat_ln (g := (ci .i64)) (sz := 1) (fun _ => rfl) hl4392) Try.isAgg22) rfl fun a w hS => ?_
            refine st1 hS (mv rfl) rfl fun a w hS => ?_
            refine st1 hS (mv rfl) rfl fun a w hS => ?_
            refine st1 hS (bin rfl rfl rfl) rfl fun a w hS => ?_
            refine st1 hS (mv rfl) rfl fun a w hS => ?_
            refine st1 hS (bin rfl rfl rfl) rfl fun a w hS => ?_
            obtain ⟨hk4492, hM⟩ := wp_chk hM
            refine st1 hS (ixV rfl rfl Try.runUnderlying22 Try.sizeOf3 (hV4396.rd (i := 2) rfl) (fun _ => rfl) rfl hk4492) rfl fun a w hS => ?_
            refine st1 hS (ldV0 rfl (hV4396.rd (i := 2) rfl) (fun _ => rfl) hk4492 rfl Try.isAgg3) rfl fun a w hS => ?_
            refine st1x (v := Value.int .i64) hS (asg rfl) rfl fun v4493 a w hz hS => ?_
            have hM := lt_to hz hM; clear hz
            refine st1 hS (asg rfl) rfl fun a w hS => ?_
            refine wpList_nil ?_
            refine then_n ?_
            refine wp_ret ?_
            refine then_ret (blk_ret (then_ret (then_ret (blk_ret (then_ret ?_)))))
            exact s_ret (rs := [4, 5]) hS rfl rfl (hret v4493 (0 : Int) at_4481 f4482 w hM h4483 (hS.st.pick [0, 1, 2] (by kernel_rfl)))
          · refine wp_skip ?_
            refine then_n ?_
            refine wp_seq ?_
            refine wp_region_list ?_
            refine st1 hS (mv rfl) rfl fun a w hS => ?_
            refine st1 hS (mv rfl) rfl fun a w hS => ?_
            refine st1 hS (bin rfl rfl rfl) rfl fun a w hS => ?_
            refine st1x (v := Value.int .i64) hS (asg rfl) rfl fun first4494 a w hz hS => ?_
            have hM := lt_to hz hM; clear hz
            refine wpList_nil ?_
            refine then_n ?_
            refine wp_region_list ?_
            refine st1 hS (mv rfl) rfl fun a w hS => ?_
            refine st1 hS (mv rfl) rfl fun a w hS => ?_
            refine st1 hS (bin rfl rfl rfl) rfl fun a w hS => ?_
            refine st1x (v := Value.int .i64) hS (asg rfl) rfl fun passed4495 a w hz hS => ?_
            have hM := lt_to hz hM; clear hz
            refine wpList_nil ?_
            refine blk_n (then_n ?_)
            refine wp_region_list ?_
            refine st1 hS (mv rfl) rfl fun a w hS => ?_
            refine st1 hS (bin rfl rfl rfl) rfl fun a w hS => ?_
            refine st1x (v := Value.int .i64) hS (asg rfl) rfl fun n_4496 a w hz hS => ?_
            have hM := lt_to hz hM; clear hz
            refine wpList_nil ?_
            refine then_n ?_
            exact hJ4497 _ _ ⟨at_4481, f4482, code4487, first4494, passed4495, n_4496, hS.to [0, 1, 2, 3] (by kernel_rfl) ⟨rfl, rfl, rfl, rfl, rfl, rfl, rfl, trivial⟩, h4483, hM⟩
      · refine wp_exit ?_
        refine then_ex (then_ex (blk_same (then_n ?_)))
        exact hJ4501 _ _ ⟨at_4470, f4471, hS.to [0, 1, 2, 3] (by kernel_rfl) ⟨rfl, rfl, trivial⟩, hB4472, hM⟩
  · intro a w hI
    obtain ⟨at_4498, f4499, hS, hB4500, hM⟩ := hI
    rw [huff_Table_Next.j2] at hM
    refine wp_seq ?_
    refine wp_region_list ?_
    refine st1 hS (mv rfl) rfl fun a w hS => ?_
    refine st1 hS (ldbA 3 rfl hB4405 rfl ([.int .i64 r4397.place_.at_, str r4397.text_]) rfl rfl Try.isAgg63 Try.sizeOf63) rfl fun a w hS => ?_
    refine st1 hS (nck rfl) rfl fun a w hS => ?_
    refine stB 0 ([.int .i64 r4397.place_.at_, str r4397.text_]) ([.int .i64 r4397.place_.at_, str r4397.text_]) hS rfl rfl hB4500 rfl rfl Try.sizeOf63 (by simp [Value.oneCell']) (Nat.le_of_ble_eq_true rfl) rfl fun w f4502 hB4503 hS => ?_
    refine wpList_nil ?_
    refine then_n ?_
    refine wp_seq ?_
    refine wp_region_list ?_
    refine st1 hS (asg rfl) rfl fun a w hS => ?_
    refine st1 hS (asg rfl) rfl fun a w hS => ?_
    refine wpList_nil ?_
    refine then_n ?_
    refine wp_ret ?_
    exact s_ret (rs := [4, 5]) hS rfl rfl (hret (0 : Int) (3 : Int) r4397.place_.at_ f4502 w hM hB4503 (hS.st.pick [0, 1, 2] (by kernel_rfl)))

theorem bits_Reader_At_c {H : Imm} {F : List Frag} {w : World} {R : Ending → World → Prop} {kr : Unit → Prop} {kp : Value → Prop} (hG : Gl H) (K : Nat) (r4539 : T_bits_Reader) (b4540 : Nat) (f4541 : Frag) (hB4542 : Blk f4541 b4540 ([.int .i64 r4539.place_.at_, str r4539.text_]) 63)
    (hS : St w H [f4541] F) (hm : (bits_Reader_At.m K r4539).wp kr kp)
    (hret : ∀ (w : World), kr () → St w H [f4541] F → R (.returned (.int .i64 r4539.place_.at_)) w) :
    Calls Try.prog 19 ⟨[ptr b4540 0]⟩ w R := by
  refine enter Try.func19 rfl Try.ntmps19 rfl hS fun a w hS => ?_
  have hM := hm; clear hm
  rw [bits_Reader_At.m] at hM
  refine wp_seq ?_
  refine wp_region_list ?_
  refine st1 hS (asg rfl) rfl fun a w hS => ?_
  refine wpList_nil ?_
  refine then_n ?_
  refine wp_seq ?_
  refine wp_seq ?_
  refine wp_region_list ?_
  refine st1 hS (mv rfl) rfl fun a w hS => ?_
  refine st1 hS (eqNil rfl rfl Try.runUnderlying33) rfl fun a w hS => ?_
  refine wpList_nil ?_
  refine then_n ?_
  refine s_condF hS rfl ?_
  refine wp_skip ?_
  refine then_n ?_
  refine wp_seq ?_
  refine wp_region_list ?_
  refine st1 hS (mv rfl) rfl fun a w hS => ?_
  refine st1 hS (nck rfl) rfl fun a w hS => ?_
  refine st1 hS (fad rfl Try.runUnderlying63 rfl Try.sizeOf48 rfl) rfl fun a w hS => ?_
  refine st1 hS (fad rfl Try.runUnderlying48 rfl Try.sizeOf3 rfl) rfl fun a w hS => ?_
  refine st1 hS (ldb 0 rfl hB4542 rfl rfl Try.isAgg3) rfl fun a w hS => ?_
  refine st1 hS (asg rfl) rfl fun a w hS => ?_
  refine wpList_nil ?_
  refine then_n ?_
  refine wp_ret ?_
  exact s_ret (rs := [2]) hS rfl rfl (hret w hM (hS.st.pick [0] (by kernel_rfl)))

theorem mortiselaw06_live_c {H : Imm} {F : List Frag} {w : World} {R : Ending → World → Prop} {kr : Bool → Prop} {kp : Value → Prop} (hG : Gl H) (K : Nat)
    (hS : St w H [] F) (hm : (mortiselaw06_live.m K).wp kr kp)
    (hret : ∀ (x4545 : Bool) (w : World), kr x4545 → St w H [] F → R (.returned (.bool x4545)) w)
    (hpan : ∀ v w, kp v → St w H [] F → R (.panicked [⟨v, false, false⟩]) w) :
    Calls Try.prog 14 ⟨[]⟩ w R := by
  refine enter Try.func14 rfl Try.ntmps14 rfl hS fun a w hS => ?_
  have hM := hm; clear hm
  rw [mortiselaw06_live.m] at hM
  refine wp_seq ?_
  refine wp_region_list ?_
  refine st1 hS (asg rfl) rfl fun a w hS => ?_
  refine wpList_nil ?_
  refine then_n ?_
  refine wp_seq ?_
  refine wp_region_list ?_
  refine bsl (g := (ci .i64)) ([(2 : Int), (1 : Int), (3 : Int), (3 : Int)] : List Int) [.int .i64 (2 : Int), .int .i64 (1 : Int), .int .i64 (3 : Int), .int .i64 (3 : Int)] hS Try.runUnderlying22 Try.sizeOf3 X.el3 rfl rfl rfl (by simp [Value.cells]) rfl rfl rfl rfl rfl fun w A442 c443 f444 hV445 hS => ?_
  refine s_call hS rfl Try.call9 (huff_Codes_c hG K ([(2 : Int), (1 : Int), (3 : Int), (3 : Int)] : List Int) A442 c443 (hV445.rdF (i := 0) rfl) (hV445.cap (fun _ => rfl) rfl) (hS.st.part 0 [0] (by kernel_rfl)) (wp_bind hM) (fun A446 c447 x448 f449 x450 w hM h451 hst => s_back hS.ev hst.appF rfl fun hS => ?_))
  replace hS : Ss _ _ _ H [f449, f444] F _ _ := hS
  refine st1 hS (mv rfl) rfl fun a w hS => ?_
  refine st1 hS (ex rfl rfl) rfl fun a w hS => ?_
  refine st1 hS (ex rfl rfl) rfl fun a w hS => ?_
  refine st1 hS (asg rfl) rfl fun a w hS => ?_
  refine st1 hS (asg rfl) rfl fun a w hS => ?_
  refine wpList_nil ?_
  refine then_n ?_
  refine wp_seq ?_
  refine wp_region_list ?_
  refine bsl (g := (ci .i64)) ([(2 : Int), (1 : Int), (3 : Int), (3 : Int)] : List Int) [.int .i64 (2 : Int), .int .i64 (1 : Int), .int .i64 (3 : Int), .int .i64 (3 : Int)] hS Try.runUnderlying22 Try.sizeOf3 X.el3 rfl rfl rfl (by simp [Value.cells]) rfl rfl rfl rfl rfl fun w A452 c453 f454 hV455 hS => ?_
  refine s_call hS rfl Try.call15 (huff_New_c hG K ([(2 : Int), (1 : Int), (3 : Int), (3 : Int)] : List Int) A452 c453 (hV455.rdF (i := 0) rfl) (hV455.cap (fun _ => rfl) rfl) (hS.st.part 0 [0, 1, 2] (by kernel_rfl)) (wp_bind hM) (fun A618 x619 f620 x621 w hM h622 hst => s_back hS.ev hst.appF rfl fun hS => ?_))
  replace hS : Ss _ _ _ H [f620, f454, f449, f444] F _ _ := hS
  refine st1 hS (mv rfl) rfl fun a w hS => ?_
  refine st1 hS (ex rfl rfl) rfl fun a w hS => ?_
  refine st1 hS (ex rfl rfl) rfl fun a w hS => ?_
  refine st1 hS (asg rfl) rfl fun a w hS => ?_
  refine st1 hS (asg rfl) rfl fun a w hS => ?_
  refine wpList_nil ?_
  refine then_n ?_
  refine wp_seq ?_
  refine wp_region_list ?_
  refine bsl (g := (ci .i64)) ([(1 : Int), (1 : Int), (2 : Int), (4 : Int)] : List Int) [.int .i64 (1 : Int), .int .i64 (1 : Int), .int .i64 (2 : Int), .int .i64 (4 : Int)] hS Try.runUnderlying22 Try.sizeOf3 X.el3 rfl rfl rfl (by simp [Value.cells]) rfl rfl rfl rfl rfl fun w A623 c624 f625 hV626 hS => ?_
  refine s_call hS rfl Try.call20 (huff_Lengths_c hG K ([(1 : Int), (1 : Int), (2 : Int), (4 : Int)] : List Int) (15 : Int) A623 c624 (hV626.rdF (i := 0) rfl) (hV626.cap (fun _ => rfl) rfl) (hS.st.part 0 [0, 1, 2, 3, 4] (by kernel_rfl)) (wp_bind hM) (fun A4360 c4361 x4362 f4363 x4364 w hM h4365 hst => s_back hS.ev hst.appF rfl fun hS => ?_) (fun v w hk hst => s_pan (then_pan (⟨hS.ev.defs, hpan _ _ hk hst.appF.frame⟩))))
  replace hS : Ss _ _ _ H [f4363, f625, f620, f454, f449, f444] F _ _ := hS
  refine st1 hS (mv rfl) rfl fun a w hS => ?_
  refine st1 hS (ex rfl rfl) rfl fun a w hS => ?_
  refine st1 hS (ex rfl rfl) rfl fun a w hS => ?_
  refine st1 hS (asg rfl) rfl fun a w hS => ?_
  refine st1 hS (asg rfl) rfl fun a w hS => ?_
  refine wpList_nil ?_
  refine then_n ?_
  refine wp_seq ?_
  refine wp_region_list ?_
  refine s_call hS rfl Try.call16 (bits_New_c hG K ([5] : List UInt8) (hS.st.part 0 [0, 1, 2, 3, 4, 5] (by kernel_rfl)) (wp_bind hM) (fun b4373 f4374 w hM h4375 hst => s_back hS.ev hst.appF rfl fun hS => ?_))
  replace hS : Ss _ _ _ H [f4374, f4363, f625, f620, f454, f449, f444] F _ _ := hS
  refine st1 hS (asg rfl) rfl fun a w hS => ?_
  refine wpList_nil ?_
  refine then_n ?_
  refine wp_seq ?_
  refine wp_seq ?_
  refine wp_region_list ?_
  refine st1 hS (mv rfl) rfl fun a w hS => ?_
  refine st1 hS (eqNilO rfl rfl Try.runUnderlying30 h622) rfl fun a w hS => ?_
  refine st1 hS (mv rfl) rfl fun a w hS => ?_
  refine g_op 2 false 30 (b := x619.isNone) (r := false) hS rfl rfl rfl rfl rfl rfl rfl (fun hb a w hS K hK => ?_) rfl fun a w hS => ?_
  · refine st1g hS rfl rfl rfl hb (mv rfl) rfl fun a w hS => ?_
    refine st1g hS rfl rfl rfl hb (eqNil rfl rfl Try.runUnderlying33) rfl fun a w hS => ?_
    exact wpList_nil (hK _ _ (hS.up 2 rfl rfl))
  refine wpList_nil ?_
  refine then_n ?_
  refine s_cond hS rfl hM (fun hb4376 hM => ?_) (fun hb4376 hM => ?_)
  · refine wp_seq ?_
    refine wp_region_list ?_
    refine st1 hS (asg rfl) rfl fun a w hS => ?_
    refine wpList_nil ?_
    refine then_n ?_
    refine wp_ret ?_
    refine then_ret ?_
    exact s_ret (rs := [0]) hS rfl rfl (hret false w hM (hS.st.pick [] (by kernel_rfl)))
  · obtain ⟨x4377, ho4378, hM⟩ := wp_unw hM
    obtain ⟨b4379, hA, hO4387⟩ := h622.get ho4378
    obtain ⟨f4380, A4383, c4384, f4385, hF, hB4381, hl4382, hV4386⟩ := hO4387
    subst hA; subst hF
    replace hS := hS.front [3, 0, 1, 2, 4, 5, 6] (by kernel_rfl)
    replace hS := hS.splitF
    refine wp_skip ?_
    refine then_n ?_
    refine wp_seq ?_
    refine wp_region_list ?_
    refine st1 hS (mv rfl) rfl fun a w hS => ?_
    refine st1 hS (mv rfl) rfl fun a w hS => ?_
    refine s_call hS rfl Try.call17 (huff_Table_Next_c hG K x4377 (T_bits_Reader.mk (T_bits_place.mk (0 : Int)) ([5] : List UInt8)) b4379 f4380 A4383 c4384 f4385 b4373 f4374 hB4381 hl4382 hV4386 h4375 (hS.st.part 3 [0, 1, 2, 3, 4, 5, 6, 7] (by kernel_rfl)) (wp_bind hM) (fun x4509 x4510 at_4511 f4512 w hM h4513 hst => s_back hS.ev hst.appF rfl fun hS => ?_))
    replace hS : Ss _ _ _ H [f4512, f4380, f4385, f4363, f625, f454, f449, f444] F _ _ := hS
    refine st1 hS (mv rfl) rfl fun a w hS => ?_
    refine st1 hS (ex rfl rfl) rfl fun a w hS => ?_
    refine st1 hS (ex rfl rfl) rfl fun a w hS => ?_
    refine st1 hS (asg rfl) rfl fun a w hS => ?_
    refine st1 hS (asg rfl) rfl fun a w hS => ?_
    refine wpList_nil ?_
    refine then_n ?_
    refine wp_seq ?_
    refine wp_region_list ?_
    refine st1 hS (mv rfl) rfl fun a w hS => ?_
    refine st1 hS (mv rfl) rfl fun a w hS => ?_
    refine s_call hS rfl Try.call17 (huff_Table_Next_c hG K x4377 (T_bits_Reader.mk (T_bits_place.mk at_4511) ([5] : List UInt8)) b4379 f4380 A4383 c4384 f4385 b4373 f4512 hB4381 hl4382 hV4386 h4513 (hS.st.part 3 [1, 2, 0, 3, 4, 5, 6, 7] (by kernel_rfl)) (wp_bind hM) (fun x4514 x4515 at_4516 f4517 w hM h4518 hst => s_back hS.ev hst.appF rfl fun hS => ?_))
    replace hS : Ss _ _ _ H [f4517, f4380, f4385, f4363, f625, f454, f449, f444] F _ _ := hS
    refine st1 hS (mv rfl) rfl fun a w hS => ?_
    refine st1 hS (ex rfl rfl) rfl fun a w hS => ?_
    refine st1 hS (ex rfl rfl) rfl fun a w hS => ?_
    refine st1 hS (asg rfl) rfl fun a w hS => ?_
    refine st1 hS (asg rfl) rfl fun a w hS => ?_
    refine wpList_nil ?_
    refine then_n ?_
    refine wp_seq ?_
    refine wp_region_list ?_
    refine st1 hS (mv rfl) rfl fun a w hS => ?_
    refine bsl (g := (ci .i64)) ([(2 : Int), (0 : Int), (6 : Int), (7 : Int)] : List Int) [.int .i64 (2 : Int), .int .i64 (0 : Int), .int .i64 (6 : Int), .int .i64 (7 : Int)] hS Try.runUnderlying22 Try.sizeOf3 X.el3 rfl rfl rfl (by simp [Value.cells]) rfl rfl rfl rfl rfl fun w A4519 c4520 f4521 hV4522 hS => ?_
    refine s_call hS rfl Try.call11 (mortiseref06_SameInts_c hG K x448 ([(2 : Int), (0 : Int), (6 : Int), (7 : Int)] : List Int) A446 c447 A4519 c4520 (h451.rdF (i := 7) rfl) (h451.cap (fun _ => rfl) rfl) (hV4522.rdF (i := 0) rfl) (hV4522.cap (fun _ => rfl) rfl) (hS.st.part 0 [0, 1, 2, 3, 4, 5, 6, 7, 8] (by kernel_rfl)) (wp_bind hM) (fun x4523 w hM  hst => s_back hS.ev hst.appF rfl fun hS => ?_))
    replace hS : Ss _ _ _ H [f4521, f4517, f4380, f4385, f4363, f625, f454, f449, f444] F _ _ := hS
    refine st1 hS (mv rfl) rfl fun a w hS => ?_
    refine g_op 2 true 49 (b := x4523) (r := (x450 == (0 : Int))) hS rfl rfl rfl rfl rfl rfl rfl (fun hb a w hS K hK => ?_) rfl fun a w hS => ?_
    · refine st1g hS rfl rfl rfl hb (mv rfl) rfl fun a w hS => ?_
      refine st1g hS rfl rfl rfl hb (bin rfl rfl rfl) rfl fun a w hS => ?_
      exact wpList_nil (hK _ _ (hS.up 2 rfl rfl))
    refine st1 hS (mv rfl) rfl fun a w hS => ?_
    refine g_op 2 true 53 (b := (x4523 && (x450 == (0 : Int)))) (r := (x621 == (0 : Int))) hS rfl rfl rfl rfl rfl rfl rfl (fun hb a w hS K hK => ?_) rfl fun a w hS => ?_
    · refine st1g hS rfl rfl rfl hb (mv rfl) rfl fun a w hS => ?_
      refine st1g hS rfl rfl rfl hb (bin rfl rfl rfl) rfl fun a w hS => ?_
      exact wpList_nil (hK _ _ (hS.up 2 rfl rfl))
    refine st1 hS (mv rfl) rfl fun a w hS => ?_
    refine g_op 2 true 57 (b := ((x4523 && (x450 == (0 : Int))) && (x621 == (0 : Int)))) (r := (x4364 == (0 : Int))) hS rfl rfl rfl rfl rfl rfl rfl (fun hb a w hS K hK => ?_) rfl fun a w hS => ?_
    · refine st1g hS rfl rfl rfl hb (mv rfl) rfl fun a w hS => ?_
      refine st1g hS rfl rfl rfl hb (bin rfl rfl rfl) rfl fun a w hS => ?_
      exact wpList_nil (hK _ _ (hS.up 2 rfl rfl))
    refine st1 hS (mv rfl) rfl fun a w hS => ?_
    refine g_op 3 true 61 (b := (((x4523 && (x450 == (0 : Int))) && (x621 == (0 : Int))) && (x4364 == (0 : Int)))) (r := ((x4362.length : Int) == (4 : Int))) hS rfl rfl rfl rfl rfl rfl rfl (fun hb a w hS K hK => ?_) rfl fun a w hS => ?_
    · refine st1g hS rfl rfl rfl hb (mv rfl) rfl fun a w hS => ?_
      refine st1g hS rfl rfl rfl hb (lenV rfl Try.runUnderlying22) rfl fun a w hS => ?_
      refine st1g hS rfl rfl rfl hb (bin rfl rfl rfl) rfl fun a w hS => ?_
      exact wpList_nil (hK _ _ (hS.up 3 rfl rfl))
    refine st1 hS (mv rfl) rfl fun a w hS => ?_
    obtain ⟨hk4526, hM⟩ := wp_chk hM
    refine g_op 4 true 66 (b := ((((x4523 && (x450 == (0 : Int))) && (x621 == (0 : Int))) && (x4364 == (0 : Int))) && ((x4362.length : Int) == (4 : Int)))) (r := ((rd x4362 (3 : Int)) == (1 : Int))) hS rfl rfl rfl rfl rfl rfl rfl (fun hb a w hS K hK => ?_) rfl fun a w hS => ?_
    · refine st1g hS rfl rfl rfl hb (mv rfl) rfl fun a w hS => ?_
      have hk4525 := imp_of hk4526 hb
      refine st1g hS rfl rfl rfl hb (ixV rfl rfl Try.runUnderlying22 Try.sizeOf3 (h4365.rd (i := 4) rfl) (fun _ => rfl) rfl hk4525) rfl fun a w hS => ?_
      refine st1g hS rfl rfl rfl hb (ldV0 rfl (h4365.rd (i := 4) rfl) (fun _ => rfl) hk4525 rfl Try.isAgg3) rfl fun a w hS => ?_
      refine st1g hS rfl rfl rfl hb (bin rfl rfl rfl) rfl fun a w hS => ?_
      exact wpList_nil (hK _ _ (hS.up 4 rfl rfl))
    refine st1 hS (mv rfl) rfl fun a w hS => ?_
    obtain ⟨hk4529, hM⟩ := wp_chk hM
    refine g_op 4 true 72 (b := (((((x4523 && (x450 == (0 : Int))) && (x621 == (0 : Int))) && (x4364 == (0 : Int))) && ((x4362.length : Int) == (4 : Int))) && ((rd x4362 (3 : Int)) == (1 : Int)))) (r := ((rd x4362 (2 : Int)) == (2 : Int))) hS rfl rfl rfl rfl rfl rfl rfl (fun hb a w hS K hK => ?_) rfl fun a w hS => ?_
    · refine st1g hS rfl rfl rfl hb (mv rfl) rfl fun a w hS => ?_
      have hk4528 := imp_of hk4529 hb
      refine st1g hS rfl rfl rfl hb (ixV rfl rfl Try.runUnderlying22 Try.sizeOf3 (h4365.rd (i := 4) rfl) (fun _ => rfl) rfl hk4528) rfl fun a w hS => ?_
      refine st1g hS rfl rfl rfl hb (ldV0 rfl (h4365.rd (i := 4) rfl) (fun _ => rfl) hk4528 rfl Try.isAgg3) rfl fun a w hS => ?_
      refine st1g hS rfl rfl rfl hb (bin rfl rfl rfl) rfl fun a w hS => ?_
      exact wpList_nil (hK _ _ (hS.up 4 rfl rfl))
    refine st1 hS (mv rfl) rfl fun a w hS => ?_
    refine seg_cutJ (fun a w => ∃ (v4536 : Bool), Ss 104 [] [(7, ptr b4373 0), (8, .int .i64 x4509), (9, .int .i64 x4510), (10, .int .i64 x4514), (11, .int .i64 x4515), (82, .bool v4536)] H [f4517] F a w ∧ (mortiselaw06_live.j1 K x4509 x4510 x4514 x4515 at_4516 v4536).wp kr kp) 4 (fun J4537 hJ4537 => ?_) ?_
    · refine ifB (b := ((((((x4523 && (x450 == (0 : Int))) && (x621 == (0 : Int))) && (x4364 == (0 : Int))) && ((x4362.length : Int) == (4 : Int))) && ((rd x4362 (3 : Int)) == (1 : Int))) && ((rd x4362 (2 : Int)) == (2 : Int)))) hM (fun hb4530 hM => ?_) (fun hb4530 hM => ?_)
      · replace hS := hS.re 77 (v := .bool true) rfl (congrArg Value.bool hb4530)
        replace hS := hS.re 78 (v := .bool true) rfl (congrArg Value.bool hb4530)
        refine unguard hS rfl rfl rfl rfl ?_
        refine bsl (g := (ci .i64)) ([(1 : Int), (1 : Int), (1 : Int)] : List Int) [.int .i64 (1 : Int), .int .i64 (1 : Int), .int .i64 (1 : Int)] hS Try.runUnderlying22 Try.sizeOf3 X.el3 rfl rfl rfl (by simp [Value.cells]) rfl rfl rfl rfl rfl fun w A4531 c4532 f4533 hV4534 hS => ?_
        refine unguard hS rfl rfl rfl rfl ?_
        refine s_call hS rfl Try.call12 (huff_Check_c hG K ([(1 : Int), (1 : Int), (1 : Int)] : List Int) A4531 c4532 (hV4534.rdF (i := 0) rfl) (hV4534.cap (fun _ => rfl) rfl) (hS.st.part 0 [0, 1, 2, 3, 4, 5, 6, 7, 8, 9] (by kernel_rfl)) (wp_bind hM) (fun x4535 w hM  hst => s_back hS.ev hst.appF rfl fun hS => ?_))
        replace hS : Ss _ _ _ H [f4533, f4521, f4517, f4380, f4385, f4363, f625, f454, f449, f444] F _ _ := hS
        refine st1g hS rfl rfl rfl rfl (bin rfl rfl rfl) rfl fun a w hS => ?_
        refine st1 hS (pk rfl rfl rfl) rfl fun a w hS => ?_
        refine wpList_nil ?_
        refine then_n ?_
        exact hJ4537 _ _ ⟨(x4535 == (3 : Int)), hS.to [2] (by kernel_rfl) ⟨rfl, rfl, rfl, rfl, rfl, rfl, trivial⟩, hM⟩
      · replace hS := hS.re 77 (v := .bool false) rfl (congrArg Value.bool hb4530)
        replace hS := hS.re 78 (v := .bool false) rfl (congrArg Value.bool hb4530)
        refine skips 3 hS rfl fun a w hS => ?_
        refine st1 hS (pk rfl rfl rfl) rfl fun a w hS => ?_
        refine wpList_nil ?_
        refine then_n ?_
        exact hJ4537 _ _ ⟨false, hS.to [1] (by kernel_rfl) ⟨rfl, rfl, rfl, rfl, rfl, rfl, trivial⟩, hM⟩
    · intro a w hI
      obtain ⟨v4536, hS, hM⟩ := hI
      rw [mortiselaw06_live.j1] at hM
      refine st1 hS (mv rfl) rfl fun a w hS => ?_
      refine g_op 2 true 83 (b := v4536) (r := (x4509 == (0 : Int))) hS rfl rfl rfl rfl rfl rfl rfl (fun hb a w hS K hK => ?_) rfl fun a w hS => ?_
      · refine st1g hS rfl rfl rfl hb (mv rfl) rfl fun a w hS => ?_
        refine st1g hS rfl rfl rfl hb (bin rfl rfl rfl) rfl fun a w hS => ?_
        exact wpList_nil (hK _ _ (hS.up 2 rfl rfl))
      refine st1 hS (mv rfl) rfl fun a w hS => ?_
      refine g_op 2 true 87 (b := (v4536 && (x4509 == (0 : Int)))) (r := (x4510 == (0 : Int))) hS rfl rfl rfl rfl rfl rfl rfl (fun hb a w hS K hK => ?_) rfl fun a w hS => ?_
      · refine st1g hS rfl rfl rfl hb (mv rfl) rfl fun a w hS => ?_
        refine st1g hS rfl rfl rfl hb (bin rfl rfl rfl) rfl fun a w hS => ?_
        exact wpList_nil (hK _ _ (hS.up 2 rfl rfl))
      refine st1 hS (mv rfl) rfl fun a w hS => ?_
      refine g_op 2 true 91 (b := ((v4536 && (x4509 == (0 : Int))) && (x4510 == (0 : Int)))) (r := (x4514 == (0 : Int))) hS rfl rfl rfl rfl rfl rfl rfl (fun hb a w hS K hK => ?_) rfl fun a w hS => ?_
      · refine st1g hS rfl rfl rfl hb (mv rfl) rfl fun a w hS => ?_
        refine st1g hS rfl rfl rfl hb (bin rfl rfl rfl) rfl fun a w hS => ?_
        exact wpList_nil (hK _ _ (hS.up 2 rfl rfl))
      refine st1 hS (mv rfl) rfl fun a w hS => ?_
      refine g_op 2 true 95 (b := (((v4536 && (x4509 == (0 : Int))) && (x4510 == (0 : Int))) && (x4514 == (0 : Int)))) (r := (x4515 == (0 : Int))) hS rfl rfl rfl rfl rfl rfl rfl (fun hb a w hS K hK => ?_) rfl fun a w hS => ?_
      · refine st1g hS rfl rfl rfl hb (mv rfl) rfl fun a w hS => ?_
        refine st1g hS rfl rfl rfl hb (bin rfl rfl rfl) rfl fun a w hS => ?_
        exact wpList_nil (hK _ _ (hS.up 2 rfl rfl))
      refine st1 hS (mv rfl) rfl fun a w hS => ?_
      refine seg_cutJ (fun a w => ∃ (v4543 : Bool), Ss 104 [] [(103, .bool v4543)] H [] F a w ∧ (mortiselaw06_live.j2 K v4543).wp kr kp) 4 (fun J4544 hJ4544 => ?_) ?_
      · refine ifB (b := ((((v4536 && (x4509 == (0 : Int))) && (x4510 == (0 : Int))) && (x4514 == (0 : Int))) && (x4515 == (0 : Int)))) hM (fun hb4538 hM => ?_) (fun hb4538 hM => ?_)
        · replace hS := hS.re 98 (v := .bool true) rfl (congrArg Value.bool hb4538)
          replace hS := hS.re 99 (v := .bool true) rfl (congrArg Value.bool hb4538)
          refine st1g hS rfl rfl rfl rfl (mv rfl) rfl fun a w hS => ?_
          refine unguard hS rfl rfl rfl rfl ?_
          refine s_call hS rfl Try.call19 (bits_Reader_At_c hG K (T_bits_Reader.mk (T_bits_place.mk at_4516) ([5] : List UInt8)) b4373 f4517 h4518 (hS.st.part 1 [0] (by kernel_rfl)) (wp_bind hM) (fun  w hM  hst => s_back hS.ev hst.appF rfl fun hS => ?_))
          replace hS : Ss _ _ _ H [f4517] F _ _ := hS
          refine st1g hS rfl rfl rfl rfl (bin rfl rfl rfl) rfl fun a w hS => ?_
          refine st1 hS (pk rfl rfl rfl) rfl fun a w hS => ?_
          refine wpList_nil ?_
          refine then_n ?_
          exact hJ4544 _ _ ⟨(at_4516 == (4 : Int)), hS.to [] (by kernel_rfl) ⟨rfl, trivial⟩, hM⟩
        · replace hS := hS.re 98 (v := .bool false) rfl (congrArg Value.bool hb4538)
          replace hS := hS.re 99 (v := .bool false) rfl (congrArg Value.bool hb4538)
          refine skips 3 hS rfl fun a w hS => ?_
          refine st1 hS (pk rfl rfl rfl) rfl fun a w hS => ?_
          refine wpList_nil ?_
          refine then_n ?_
          exact hJ4544 _ _ ⟨false, hS.to [] (by kernel_rfl) ⟨rfl, trivial⟩, hM⟩
      · intro a w hI
        obtain ⟨v4543, hS, hM⟩ := hI
        rw [mortiselaw06_live.j2] at hM
        refine st1 hS (asg rfl) rfl fun a w hS => ?_
        refine wpList_nil ?_
        refine then_n ?_
        refine wp_ret ?_
        exact s_ret (rs := [0]) hS rfl rfl (hret v4543 w hM (hS.st.pick [] (by kernel_rfl)))

theorem mortiselaw06_HuffCodes_c {H : Imm} {F : List Frag} {w : World} {R : Ending → World → Prop} {kr : Bool → Prop} {kp : Value → Prop} (hG : Gl H) (K : Nat) (l_1 : List Int) (A2 : Option Addr) (c3 : Nat) (hr4 : Rdl H [] F (ci .i64) A2 l_1) (hc5 : l_1.length ≤ c3)
    (hS : St w H [] F) (hm : (mortiselaw06_HuffCodes.m K l_1).wp kr kp)
    (hret : ∀ (x4549 : Bool) (w : World), kr x4549 → St w H [] F → R (.returned (.bool x4549)) w)
    (hpan : ∀ v w, kp v → St w H [] F → R (.panicked [⟨v, false, false⟩]) w) :
    Calls Try.prog 3 ⟨[.slice A2 l_1.length c3]⟩ w R := by
  refine enter Try.func3 rfl Try.ntmps3 rfl hS fun a w hS => ?_
  have hM := hm; clear hm
  rw [mortiselaw06_HuffCodes.m] at hM
  refine wp_seq ?_
  refine wp_region_list ?_
  refine st1 hS (asg rfl) rfl fun a w hS => ?_
  refine wpList_nil ?_
  refine then_n ?_
  refine wp_seq ?_
  refine wp_region_list ?_
  refine st1 hS (asg rfl) rfl fun a w hS => ?_
  obtain ⟨f6, hV7, hS⟩ := hS.nilV 3 (ci .i64) 1
  refine wpList_nil ?_
  refine then_n ?_
  refine wp_seq ?_
  refine wp_region_list ?_
  refine st1 hS (mv rfl) rfl fun a w hS => ?_
  refine st1 hS (mv rfl) rfl fun a w hS => ?_
  obtain ⟨hk8, hM⟩ := wp_chk hM
  refine apV (ys := l_1) 0 hS rfl rfl hV7 rfl hr4.wk Try.runUnderlying22 Try.runUnderlying22 X.el3 (fun _ => rfl) rfl one_t3 hk8 rfl fun zs13 w A9 c10 f11 hz hV12 hS => ?_
  have hM := lt_to hz hM; clear hz
  refine st1 hS (asg rfl) rfl fun a w hS => ?_
  refine wpList_nil ?_
  refine then_n ?_
  refine wp_seq ?_
  refine wp_region_list ?_
  refine st1 hS (mv rfl) rfl fun a w hS => ?_
  refine s_call hS rfl Try.call9 (huff_Codes_c hG K zs13 A9 c10 (hV12.rdF (i := 0) rfl) (hV12.cap (fun _ => rfl) rfl) (hS.st.part 0 [0] (by kernel_rfl)) (wp_bind hM) (fun A240 c241 x242 f243 x244 w hM h245 hst => s_back hS.ev hst.appF rfl fun hS => ?_))
  replace hS : Ss _ _ _ H [f243, f11] F _ _ := hS
  refine st1 hS (mv rfl) rfl fun a w hS => ?_
  refine st1 hS (ex rfl rfl) rfl fun a w hS => ?_
  refine st1 hS (ex rfl rfl) rfl fun a w hS => ?_
  refine st1 hS (asg rfl) rfl fun a w hS => ?_
  refine st1 hS (asg rfl) rfl fun a w hS => ?_
  refine wpList_nil ?_
  refine then_n ?_
  refine wp_seq ?_
  refine wp_region_list ?_
  refine st1 hS (mv rfl) rfl fun a w hS => ?_
  refine s_call hS rfl Try.call10 (mortiseref06_Codes_c hG K l_1 A2 c3 (hr4.app _) hc5 (hS.st.part 0 [0, 1] (by kernel_rfl)) (wp_bind hM) (fun A400 c401 x402 f403 x404 w hM h405 hst => s_back hS.ev hst.appF rfl fun hS => ?_))
  replace hS : Ss _ _ _ H [f403, f243, f11] F _ _ := hS
  refine st1 hS (mv rfl) rfl fun a w hS => ?_
  refine st1 hS (ex rfl rfl) rfl fun a w hS => ?_
  refine st1 hS (ex rfl rfl) rfl fun a w hS => ?_
  refine st1 hS (asg rfl) rfl fun a w hS => ?_
  refine st1 hS (asg rfl) rfl fun a w hS => ?_
  refine wpList_nil ?_
  refine then_n ?_
  refine wp_seq ?_
  refine wp_region_list ?_
  refine st1 hS (mv rfl) rfl fun a w hS => ?_
  refine st1 hS (mv rfl) rfl fun a w hS => ?_
  refine st1 hS (bin rfl rfl rfl) rfl fun a w hS => ?_
  refine st1 hS (mv rfl) rfl fun a w hS => ?_
  refine seg_cutJ (fun a w => ∃ (v430 : Bool), Ss 44 [] [(0, .slice A2 l_1.length c3), (3, .slice A9 zs13.length c10), (28, .bool v430)] H [f11] F a w ∧ (mortiselaw06_HuffCodes.j1 K l_1 zs13 v430).wp kr kp) 4 (fun J431 hJ431 => ?_) ?_
  · refine ifB (b := (x244 == x404)) hM (fun hb406 hM => ?_) (fun hb406 hM => ?_)
    · replace hS := hS.re 23 (v := .bool true) rfl (congrArg Value.bool hb406)
      replace hS := hS.re 24 (v := .bool true) rfl (congrArg Value.bool hb406)
      refine st1g hS rfl rfl rfl rfl (mv rfl) rfl fun a w hS => ?_
      refine st1g hS rfl rfl rfl rfl (mv rfl) rfl fun a w hS => ?_
      refine unguard hS rfl rfl rfl rfl ?_
      refine s_call hS rfl Try.call11 (mortiseref06_SameInts_c hG K x242 x402 A240 c241 A400 c401 (h245.rdF (i := 1) rfl) (h245.cap (fun _ => rfl) rfl) (h405.rdF (i := 0) rfl) (h405.cap (fun _ => rfl) rfl) (hS.st.part 0 [0, 1, 2] (by kernel_rfl)) (wp_bind hM) (fun x429 w hM  hst => s_back hS.ev hst.appF rfl fun hS => ?_))
      replace hS : Ss _ _ _ H [f403, f243, f11] F _ _ := hS
      refine st1 hS (pk rfl rfl rfl) rfl fun a w hS => ?_
      refine wpList_nil ?_
      refine then_n ?_
      exact hJ431 _ _ ⟨x429, hS.to [2] (by kernel_rfl) ⟨rfl, rfl, rfl, trivial⟩, hM⟩
    · replace hS := hS.re 23 (v := .bool false) rfl (congrArg Value.bool hb406)
      replace hS := hS.re 24 (v := .bool false) rfl (congrArg Value.bool hb406)
      refine skips 3 hS rfl fun a w hS => ?_
      refine st1 hS (pk rfl rfl rfl) rfl fun a w hS => ?_
      refine wpList_nil ?_
      refine then_n ?_
      exact hJ431 _ _ ⟨false, hS.to [2] (by kernel_rfl) ⟨rfl, rfl, rfl, trivial⟩, hM⟩
  · intro a w hI
    obtain ⟨v430, hS, hM⟩ := hI
    rw [mortiselaw06_HuffCodes.j1] at hM
    refine st1 hS (mv rfl) rfl fun a w hS => ?_
    refine seg_cutJ (fun a w => ∃ (v435 : Bool), Ss 44 [] [(0, .slice A2 l_1.length c3), (3, .slice A9 zs13.length c10), (35, .bool v435)] H [f11] F a w ∧ (mortiselaw06_HuffCodes.j2 K l_1 zs13 v435).wp kr kp) 6 (fun J436 hJ436 => ?_) ?_
    · refine ifB (b := v430) hM (fun hb432 hM => ?_) (fun hb432 hM => ?_)
      · replace hS := hS.re 28 (v := .bool true) rfl (congrArg Value.bool hb432)
        replace hS := hS.re 29 (v := .bool true) rfl (congrArg Value.bool hb432)
        refine st1g hS rfl rfl rfl rfl (mv rfl) rfl fun a w hS => ?_
        refine unguard hS rfl rfl rfl rfl ?_
        refine s_call hS rfl Try.call12 (huff_Check_c hG K zs13 A9 c10 (hV12.rdF (i := 0) rfl) (hV12.cap (fun _ => rfl) rfl) (hS.st.part 0 [0] (by kernel_rfl)) (wp_bind hM) (fun x433 w hM  hst => s_back hS.ev hst.appF rfl fun hS => ?_))
        replace hS : Ss _ _ _ H [f11] F _ _ := hS
        refine st1g hS rfl rfl rfl rfl (mv rfl) rfl fun a w hS => ?_
        refine unguard hS rfl rfl rfl rfl ?_
        refine s_call hS rfl Try.call13 (mortiseref06_Check_c hG K l_1 A2 c3 (hr4.app _) hc5 (hS.st.part 0 [0] (by kernel_rfl)) (wp_bind hM) (fun x434 w hM  hst => s_back hS.ev hst.appF rfl fun hS => ?_))
        replace hS : Ss _ _ _ H [f11] F _ _ := hS
        refine st1g hS rfl rfl rfl rfl (bin rfl rfl rfl) rfl fun a w hS => ?_
        refine st1 hS (pk rfl rfl rfl) rfl fun a w hS => ?_
        refine wpList_nil ?_
        refine then_n ?_
        exact hJ436 _ _ ⟨(x433 == x434), hS.to [0] (by kernel_rfl) ⟨rfl, rfl, rfl, trivial⟩, hM⟩
      · replace hS := hS.re 28 (v := .bool false) rfl (congrArg Value.bool hb432)
        replace hS := hS.re 29 (v := .bool false) rfl (congrArg Value.bool hb432)
        refine skips 5 hS rfl fun a w hS => ?_
        refine st1 hS (pk rfl rfl rfl) rfl fun a w hS => ?_
        refine wpList_nil ?_
        refine then_n ?_
        exact hJ436 _ _ ⟨false, hS.to [0] (by kernel_rfl) ⟨rfl, rfl, rfl, trivial⟩, hM⟩
    · intro a w hI
      obtain ⟨v435, hS, hM⟩ := hI
      rw [mortiselaw06_HuffCodes.j2] at hM
      refine st1 hS (mv rfl) rfl fun a w hS => ?_
      refine seg_cutJ (fun a w => ∃ (v439 : Bool), Ss 44 [] [(40, .bool v439)] H [] F a w ∧ (mortiselaw06_HuffCodes.j3 K v439).wp kr kp) 4 (fun J440 hJ440 => ?_) ?_
      · refine ifB (b := v435) hM (fun hb437 hM => ?_) (fun hb437 hM => ?_)
        · replace hS := hS.re 35 (v := .bool true) rfl (congrArg Value.bool hb437)
          replace hS := hS.re 36 (v := .bool true) rfl (congrArg Value.bool hb437)
          refine st1g hS rfl rfl rfl rfl (mv rfl) rfl fun a w hS => ?_
          refine st1g hS rfl rfl rfl rfl (mv rfl) rfl fun a w hS => ?_
          refine unguard hS rfl rfl rfl rfl ?_
          refine s_call hS rfl Try.call11 (mortiseref06_SameInts_c hG K zs13 l_1 A9 c10 A2 c3 (hV12.rdF (i := 0) rfl) (hV12.cap (fun _ => rfl) rfl) (hr4.app _) hc5 (hS.st.part 0 [0] (by kernel_rfl)) (wp_bind hM) (fun x438 w hM  hst => s_back hS.ev hst.appF rfl fun hS => ?_))
          replace hS : Ss _ _ _ H [f11] F _ _ := hS
          refine st1 hS (pk rfl rfl rfl) rfl fun a w hS => ?_
          refine wpList_nil ?_
          refine then_n ?_
          exact hJ440 _ _ ⟨x438, hS.to [] (by kernel_rfl) ⟨rfl, trivial⟩, hM⟩
        · replace hS := hS.re 35 (v := .bool false) rfl (congrArg Value.bool hb437)
          replace hS := hS.re 36 (v := .bool false) rfl (congrArg Value.bool hb437)
          refine skips 3 hS rfl fun a w hS => ?_
          refine st1 hS (pk rfl rfl rfl) rfl fun a w hS => ?_
          refine wpList_nil ?_
          refine then_n ?_
          exact hJ440 _ _ ⟨false, hS.to [] (by kernel_rfl) ⟨rfl, trivial⟩, hM⟩
      · intro a w hI
        obtain ⟨v439, hS, hM⟩ := hI
        rw [mortiselaw06_HuffCodes.j3] at hM
        refine st1 hS (mv rfl) rfl fun a w hS => ?_
        refine seg_cutJ (fun a w => ∃ (v4547 : Bool), Ss 44 [] [(43, .bool v4547)] H [] F a w ∧ (mortiselaw06_HuffCodes.j4 K v4547).wp kr kp) 2 (fun J4548 hJ4548 => ?_) ?_
        · refine ifB (b := v439) hM (fun hb441 hM => ?_) (fun hb441 hM => ?_)
          · replace hS := hS.re 40 (v := .bool true) rfl (congrArg Value.bool hb441)
            replace hS := hS.re 41 (v := .bool true) rfl (congrArg Value.bool hb441)
            refine unguard hS rfl rfl rfl rfl ?_
            refine s_call hS rfl Try.call14 (mortiselaw06_live_c hG K  (hS.st.part 0 [] (by kernel_rfl)) (wp_bind hM) (fun x4546 w hM  hst => s_back hS.ev hst.appF rfl fun hS => ?_) (fun v w hk hst => s_pan (then_pan (then_pan (⟨hS.ev.defs, hpan _ _ hk hst.appF.frame⟩)))))
            replace hS : Ss _ _ _ H [] F _ _ := hS
            refine st1 hS (pk rfl rfl rfl) rfl fun a w hS => ?_
            refine wpList_nil ?_
            refine then_n ?_
            exact hJ4548 _ _ ⟨x4546, hS.to [] (by kernel_rfl) ⟨rfl, trivial⟩, hM⟩
          · replace hS := hS.re 40 (v := .bool false) rfl (congrArg Value.bool hb441)
            replace hS := hS.re 41 (v := .bool false) rfl (congrArg Value.bool hb441)
            refine skips 1 hS rfl fun a w hS => ?_
            refine st1 hS (pk rfl rfl rfl) rfl fun a w hS => ?_
            refine wpList_nil ?_
            refine then_n ?_
            exact hJ4548 _ _ ⟨false, hS.to [] (by kernel_rfl) ⟨rfl, trivial⟩, hM⟩
        · intro a w hI
          obtain ⟨v4547, hS, hM⟩ := hI
          rw [mortiselaw06_HuffCodes.j4] at hM
          refine st1 hS (asg rfl) rfl fun a w hS => ?_
          refine wpList_nil ?_
          refine then_n ?_
          refine wp_ret ?_
          exact s_ret (rs := [2]) hS rfl rfl (hret v4547 w hM (hS.st.pick [] (by kernel_rfl)))
end Go.TryS
