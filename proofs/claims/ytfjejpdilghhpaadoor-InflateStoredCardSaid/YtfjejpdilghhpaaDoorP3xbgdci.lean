/- Printed by a program of mine: each Go function answers what its model answers; conditions: what each theorem asks of memory. -/
import Derived.Test.YtfjejpdilghhpaaDoorP2xopelg
set_option linter.unusedVariables false
set_option linter.unusedSimpArgs false
namespace Go.TrydS
open Go Go.Sl Go.Mo Go.Proofs
theorem mortiseref07_state_head_c {H : Imm} {F : List Frag} {w : World} {R : Ending → World → Prop} {kr : (Int × Int × (List Int) × (List Int) × Int × Int) → Prop} {kp : Value → Prop} (hG : Gl H) (K : Nat) (s2547 : T_mortiseref07_state) (b2548 : Nat) (f2549 : Frag) (b2551 : Nat) (f2552 : Frag) (A2554 : Option Addr) (c2555 : Nat) (f2556 : Frag) (hB2550 : Blk f2549 b2548 ([ptr b2551 0, .slice A2554 s2547.out_.length c2555, .int .i64 s2547.limit_]) 51) (hB2553 : Blk f2552 b2551 ([str s2547.r_.S_, .int .i64 s2547.r_.At_]) 49) (hV2557 : Vec 5 (ci .u8) 1 A2554 s2547.out_ c2555 f2556)
    (hS : St w H [f2549, f2552, f2556] F) (hm : (mortiseref07_state_head.m K s2547).wp kr kp)
    (hret : ∀ (x2723 : Int) (x2724 : Int) (A2725 : Option Addr) (c2726 : Nat) (l_2727 : (List Int)) (f2728 : Frag) (A2730 : Option Addr) (c2731 : Nat) (codes2732 : (List Int)) (f2733 : Frag) (x2735 : Int) (at_2736 : Int) (f2737 : Frag) (w : World), kr (x2723, x2724, l_2727, codes2732, x2735, at_2736) → (Vec 3 (ci .i64) 1 A2725 l_2727 c2726 f2728) → (Vec 3 (ci .i64) 1 A2730 codes2732 c2731 f2733) → (Blk f2737 b2551 ([str s2547.r_.S_, .int .i64 at_2736]) 49) → St w H [f2728, f2733, f2549, f2737, f2556] F → R (.returned (.tuple ⟨[.int .i64 x2723, .int .i64 x2724, .agg ⟨[.slice A2725 l_2727.length c2726, .slice A2730 codes2732.length c2731]⟩, .int .i64 x2735]⟩)) w) :
    Calls Tryd.prog 45 ⟨[ptr b2548 0]⟩ w R := by
  refine enter Tryd.func45 rfl Tryd.ntmps45 rfl hS fun a w hS => ?_
  have hM := hm; clear hm
  rw [mortiseref07_state_head.m] at hM
  refine wp_seq ?_
  refine wp_region_list ?_
  refine st1 hS (asg rfl) rfl fun a w hS => ?_
  refine st1 hS (asg rfl) rfl fun a w hS => ?_
  refine alc ([.slice none 0 0, .slice none 0 0]) hS Tryd.zeroValue71 rfl rfl fun w b2558 f2559 hB2560 hS => ?_
  obtain ⟨f2561, hV2562, hS⟩ := hS.nilV 3 (ci .i64) 1
  obtain ⟨f2563, hV2564, hS⟩ := hS.nilV 3 (ci .i64) 1
  refine st1 hS (asg rfl) rfl fun a w hS => ?_
  refine wpList_nil ?_
  refine then_n ?_
  refine wp_seq ?_
  refine wp_region_list ?_
  refine st1 hS (mv rfl) rfl fun a w hS => ?_
  refine s_call hS rfl Tryd.call27 (mortiseref07_state_bits_c hG K s2547 (5 : Int) (257 : Int) b2548 f2549 b2551 f2552 A2554 c2555 f2556 hB2550 hB2553 hV2557 (hS.st.part 3 [3, 4, 5, 0, 1, 2] (by kernel_rfl)) (wp_bind hM) (fun x2565 x2566 at_2567 f2568 w hM h2569 hst => s_back hS.ev hst.appF rfl fun hS => ?_))
  replace hS : Ss _ _ _ H [f2549, f2568, f2556, f2563, f2561, f2559] F _ _ := hS
  refine st1 hS (mv rfl) rfl fun a w hS => ?_
  refine st1 hS (ex rfl rfl) rfl fun a w hS => ?_
  refine st1 hS (ex rfl rfl) rfl fun a w hS => ?_
  refine st1 hS (asg rfl) rfl fun a w hS => ?_
  refine st1 hS (asg rfl) rfl fun a w hS => ?_
  refine wpList_nil ?_
  refine then_n ?_
  refine wp_seq ?_
  refine wp_seq ?_
  refine wp_region_list ?_
  refine st1 hS (mv rfl) rfl fun a w hS => ?_
  refine st1 hS (bin rfl rfl rfl) rfl fun a w hS => ?_
  refine wpList_nil ?_
  refine then_n ?_
  refine s_cond hS rfl hM (fun hb2570 hM => ?_) (fun hb2570 hM => ?_)
  · refine wp_seq ?_
    refine wp_region_list ?_
    refine st1 hS (bld ([.slice none 0 0, .slice none 0 0]) [(0, 1), (1, 1)] Tryd.zeroValue71 Tryd.runUnderlying71 (by intro w; simp [Tryd.sizeOf67]) rfl rfl) rfl fun a w hS => ?_
    refine st1 hS (mv rfl) rfl fun a w hS => ?_
    refine st1 hS (asg rfl) rfl fun a w hS => ?_
    refine st1 hS (asg rfl) rfl fun a w hS => ?_
    refine stB 5 ([.slice none 0 0, .slice none 0 0]) ([.slice none 0 0, .slice none 0 0]) hS rfl rfl hB2560 rfl rfl Tryd.sizeOf71 (by simp [Value.oneCell']) (Nat.le_of_ble_eq_true rfl) rfl fun w f2571 hB2572 hS => ?_
    obtain ⟨f2573, hV2574, hS⟩ := hS.nilV 3 (ci .i64) 1
    obtain ⟨f2575, hV2576, hS⟩ := hS.nilV 3 (ci .i64) 1
    refine st1 hS (asg rfl) rfl fun a w hS => ?_
    refine wpList_nil ?_
    refine then_n ?_
    refine wp_ret ?_
    refine then_ret ?_
    exact s_retC (vs := [.int .i64 (0 : Int), .int .i64 (0 : Int), .agg ⟨[.slice none ([] : List Int).length (0), .slice none ([] : List Int).length (0)]⟩, .int .i64 x2566]) hS rfl (by exact ⟨rvT rfl, rvT rfl, rvA 7 ([.slice none ([] : List Int).length (0), .slice none ([] : List Int).length (0)]) rfl hB2572 rfl rfl rfl Tryd.isAgg71 Tryd.sizeOf71, rvT rfl, trivial⟩) (hret (0 : Int) (0 : Int) none (0) ([] : List Int) f2573 none (0) ([] : List Int) f2575 x2566 at_2567 f2568 w hM hV2574 hV2576 h2569 (hS.st.pick [1, 0, 2, 3, 4] (by kernel_rfl)))
  · refine wp_skip ?_
    refine then_n ?_
    refine wp_seq ?_
    refine wp_region_list ?_
    refine st1 hS (mv rfl) rfl fun a w hS => ?_
    refine s_call hS rfl Tryd.call27 (mortiseref07_state_bits_c hG K (T_mortiseref07_state.mk (T_mortiseref05_Reader.mk s2547.r_.S_ at_2567) s2547.out_ s2547.limit_) (5 : Int) (1 : Int) b2548 f2549 b2551 f2568 A2554 c2555 f2556 hB2550 h2569 hV2557 (hS.st.part 3 [0, 1, 2, 3, 4, 5] (by kernel_rfl)) (wp_bind hM) (fun x2577 x2578 at_2579 f2580 w hM h2581 hst => s_back hS.ev hst.appF rfl fun hS => ?_))
    replace hS : Ss _ _ _ H [f2549, f2580, f2556, f2563, f2561, f2559] F _ _ := hS
    refine st1 hS (mv rfl) rfl fun a w hS => ?_
    refine st1 hS (ex rfl rfl) rfl fun a w hS => ?_
    refine st1 hS (ex rfl rfl) rfl fun a w hS => ?_
    refine st1 hS (asg rfl) rfl fun a w hS => ?_
    refine st1 hS (asg rfl) rfl fun a w hS => ?_
    refine wpList_nil ?_
    refine then_n ?_
    refine wp_seq ?_
    refine wp_seq ?_
    refine wp_region_list ?_
    refine st1 hS (mv rfl) rfl fun a w hS => ?_
    refine st1 hS (bin rfl rfl rfl) rfl fun a w hS => ?_
    refine wpList_nil ?_
    refine then_n ?_
    refine s_cond hS rfl hM (fun hb2582 hM => ?_) (fun hb2582 hM => ?_)
    · refine wp_seq ?_
      refine wp_region_list ?_
      refine st1 hS (bld ([.slice none 0 0, .slice none 0 0]) [(0, 1), (1, 1)] Tryd.zeroValue71 Tryd.runUnderlying71 (by intro w; simp [Tryd.sizeOf67]) rfl rfl) rfl fun a w hS => ?_
      refine st1 hS (mv rfl) rfl fun a w hS => ?_
      refine st1 hS (asg rfl) rfl fun a w hS => ?_
      refine st1 hS (asg rfl) rfl fun a w hS => ?_
      refine stB 5 ([.slice none 0 0, .slice none 0 0]) ([.slice none 0 0, .slice none 0 0]) hS rfl rfl hB2560 rfl rfl Tryd.sizeOf71 (by simp [Value.oneCell']) (Nat.le_of_ble_eq_true rfl) rfl fun w f2583 hB2584 hS => ?_
      obtain ⟨f2585, hV2586, hS⟩ := hS.nilV 3 (ci .i64) 1
      obtain ⟨f2587, hV2588, hS⟩ := hS.nilV 3 (ci .i64) 1
      refine st1 hS (asg rfl) rfl fun a w hS => ?_
      refine wpList_nil ?_
      refine then_n ?_
      refine wp_ret ?_
      refine then_ret ?_
      exact s_retC (vs := [.int .i64 (0 : Int), .int .i64 (0 : Int), .agg ⟨[.slice none ([] : List Int).length (0), .slice none ([] : List Int).length (0)]⟩, .int .i64 x2578]) hS rfl (by exact ⟨rvT rfl, rvT rfl, rvA 7 ([.slice none ([] : List Int).length (0), .slice none ([] : List Int).length (0)]) rfl hB2584 rfl rfl rfl Tryd.isAgg71 Tryd.sizeOf71, rvT rfl, trivial⟩) (hret (0 : Int) (0 : Int) none (0) ([] : List Int) f2585 none (0) ([] : List Int) f2587 x2578 at_2579 f2580 w hM hV2586 hV2588 h2581 (hS.st.pick [1, 0, 2, 3, 4] (by kernel_rfl)))
    · refine wp_skip ?_
      refine then_n ?_
      refine wp_seq ?_
      refine wp_region_list ?_
      refine st1 hS (mv rfl) rfl fun a w hS => ?_
      refine s_call hS rfl Tryd.call27 (mortiseref07_state_bits_c hG K (T_mortiseref07_state.mk (T_mortiseref05_Reader.mk s2547.r_.S_ at_2579) s2547.out_ s2547.limit_) (4 : Int) (4 : Int) b2548 f2549 b2551 f2580 A2554 c2555 f2556 hB2550 h2581 hV2557 (hS.st.part 3 [0, 1, 2, 3, 4, 5] (by kernel_rfl)) (wp_bind hM) (fun x2589 x2590 at_2591 f2592 w hM h2593 hst => s_back hS.ev hst.appF rfl fun hS => ?_))
      replace hS : Ss _ _ _ H [f2549, f2592, f2556, f2563, f2561, f2559] F _ _ := hS
      refine st1 hS (mv rfl) rfl fun a w hS => ?_
      refine st1 hS (ex rfl rfl) rfl fun a w hS => ?_
      refine st1 hS (ex rfl rfl) rfl fun a w hS => ?_
      refine st1 hS (asg rfl) rfl fun a w hS => ?_
      refine st1 hS (asg rfl) rfl fun a w hS => ?_
      refine wpList_nil ?_
      refine then_n ?_
      refine wp_seq ?_
      refine wp_seq ?_
      refine wp_region_list ?_
      refine st1 hS (mv rfl) rfl fun a w hS => ?_
      refine st1 hS (bin rfl rfl rfl) rfl fun a w hS => ?_
      refine wpList_nil ?_
      refine then_n ?_
      refine s_cond hS rfl hM (fun hb2594 hM => ?_) (fun hb2594 hM => ?_)
      · refine wp_seq ?_
        refine wp_region_list ?_
        refine st1 hS (bld ([.slice none 0 0, .slice none 0 0]) [(0, 1), (1, 1)] Tryd.zeroValue71 Tryd.runUnderlying71 (by intro w; simp [Tryd.sizeOf67]) rfl rfl) rfl fun a w hS => ?_
        refine st1 hS (mv rfl) rfl fun a w hS => ?_
        refine st1 hS (asg rfl) rfl fun a w hS => ?_
        refine st1 hS (asg rfl) rfl fun a w hS => ?_
        refine stB 5 ([.slice none 0 0, .slice none 0 0]) ([.slice none 0 0, .slice none 0 0]) hS rfl rfl hB2560 rfl rfl Tryd.sizeOf71 (by simp [Value.oneCell']) (Nat.le_of_ble_eq_true rfl) rfl fun w f2595 hB2596 hS => ?_
        obtain ⟨f2597, hV2598, hS⟩ := hS.nilV 3 (ci .i64) 1
        obtain ⟨f2599, hV2600, hS⟩ := hS.nilV 3 (ci .i64) 1
        refine st1 hS (asg rfl) rfl fun a w hS => ?_
        refine wpList_nil ?_
        refine then_n ?_
        refine wp_ret ?_
        refine then_ret ?_
        exact s_retC (vs := [.int .i64 (0 : Int), .int .i64 (0 : Int), .agg ⟨[.slice none ([] : List Int).length (0), .slice none ([] : List Int).length (0)]⟩, .int .i64 x2590]) hS rfl (by exact ⟨rvT rfl, rvT rfl, rvA 7 ([.slice none ([] : List Int).length (0), .slice none ([] : List Int).length (0)]) rfl hB2596 rfl rfl rfl Tryd.isAgg71 Tryd.sizeOf71, rvT rfl, trivial⟩) (hret (0 : Int) (0 : Int) none (0) ([] : List Int) f2597 none (0) ([] : List Int) f2599 x2590 at_2591 f2592 w hM hV2598 hV2600 h2593 (hS.st.pick [1, 0, 2, 3, 4] (by kernel_rfl)))
      · refine wp_skip ?_
        refine then_n ?_
        refine wp_seq ?_
        refine wp_seq ?_
        refine wp_region_list ?_
        refine st1 hS (mv rfl) rfl fun a w hS => ?_
        refine st1 hS (bin rfl rfl rfl) rfl fun a w hS => ?_
        refine st1 hS (mv rfl) rfl fun a w hS => ?_
        refine g_op 2 false 49 (b := (decide (x2565 > (286 : Int)))) (r := (decide (x2577 > (30 : Int)))) hS rfl rfl rfl rfl rfl rfl rfl (fun hb a w hS K hK => ?_) rfl fun a w hS => ?_
        · refine st1g hS rfl rfl rfl hb (mv rfl) rfl fun a w hS => ?_
          refine st1g hS rfl rfl rfl hb (bin rfl rfl rfl) rfl fun a w hS => ?_
          exact wpList_nil (hK _ _ (hS.up 2 rfl rfl))
        refine wpList_nil ?_
        refine then_n ?_
        refine s_cond hS rfl hM (fun hb2601 hM => ?_) (fun hb2601 hM => ?_)
        · refine wp_seq ?_
          refine wp_region_list ?_
          refine st1 hS (bld ([.slice none 0 0, .slice none 0 0]) [(0, 1), (1, 1)] Tryd.zeroValue71 Tryd.runUnderlying71 (by intro w; simp [Tryd.sizeOf67]) rfl rfl) rfl fun a w hS => ?_
          refine st1 hS (asg rfl) rfl fun a w hS => ?_
          refine st1 hS (asg rfl) rfl fun a w hS => ?_
          refine stB 5 ([.slice none 0 0, .slice none 0 0]) ([.slice none 0 0, .slice none 0 0]) hS rfl rfl hB2560 rfl rfl Tryd.sizeOf71 (by simp [Value.oneCell']) (Nat.le_of_ble_eq_true rfl) rfl fun w f2602 hB2603 hS => ?_
          obtain ⟨f2604, hV2605, hS⟩ := hS.nilV 3 (ci .i64) 1
          obtain ⟨f2606, hV2607, hS⟩ := hS.nilV 3 (ci .i64) 1
          refine st1 hS (asg rfl) rfl fun a w hS => ?_
          refine wpList_nil ?_
          refine then_n ?_
          refine wp_ret ?_
          refine then_ret ?_
          exact s_retC (vs := [.int .i64 (0 : Int), .int .i64 (0 : Int), .agg ⟨[.slice none ([] : List Int).length (0), .slice none ([] : List Int).length (0)]⟩, .int .i64 (3 : Int)]) hS rfl (by exact ⟨rvT rfl, rvT rfl, rvA 7 ([.slice none ([] : List Int).length (0), .slice none ([] : List Int).length (0)]) rfl hB2603 rfl rfl rfl Tryd.isAgg71 Tryd.sizeOf71, rvT rfl, trivial⟩) (hret (0 : Int) (0 : Int) none (0) ([] : List Int) f2604 none (0) ([] : List Int) f2606 (3 : Int) at_2591 f2592 w hM hV2605 hV2607 h2593 (hS.st.pick [1, 0, 2, 3, 4] (by kernel_rfl)))
        · refine wp_skip ?_
          refine then_n ?_
          refine wp_seq ?_
          refine wp_region_list ?_
          obtain ⟨hk2608, hM⟩ := wp_chk hM
          refine mkS (g := (ci .i64)) (0 : Int) hS rfl rfl (by simp) Tryd.runUnderlying67 X.el3 (fun w => ⟨_, Tryd.zeroValue3 w, rfl⟩) (fun _ => rfl) rfl rfl hk2608 rfl fun zs2613 w A2609 c2610 f2611 hz hV2612 hS => ?_
          have hM := lt_to hz hM; clear hz
          refine st1 hS (asg rfl) rfl fun a w hS => ?_
          refine wpList_nil ?_
          refine then_n ?_
          refine wp_seq ?_
          refine wp_region_list ?_
          refine s_call hS rfl Tryd.call54 (mortiseref07_Order_c hG K  (hS.st.part 0 [0, 1, 2, 3, 4, 5, 6] (by kernel_rfl)) (wp_bind hM) (fun A2624 c2625 f2626 w hM h2627 hst => s_back hS.ev hst.appF rfl fun hS => ?_))
          replace hS : Ss _ _ _ H [f2626, f2611, f2549, f2592, f2556, f2563, f2561, f2559] F _ _ := hS
          refine st1 hS (asg rfl) rfl fun a w hS => ?_
          refine wpList_nil ?_
          refine then_n ?_
          refine wp_seq ?_
          refine wp_region_list ?_
          refine st1 hS (asg rfl) rfl fun a w hS => ?_
          refine wpList_nil ?_
          refine then_n ?_
          refine seq_joinJ (fun a w => ∃ (at_2691 : Int) (f2692 : Frag) (l_2694 : (List Int)) (f2695 : Frag) (any2697 : Bool), Ss 97 [] [(4, ptr b2558 0), (6, .int .i64 x2565), (8, .int .i64 x2577), (12, .slice A2609 l_2694.length c2610), (14, .bool any2697)] H [f2549, f2692, f2556, f2559, f2561, f2563, f2695] F a w ∧ (Blk f2692 b2551 ([str s2547.r_.S_, .int .i64 at_2691]) 49) ∧ (Vec 3 (ci .i64) 1 A2609 l_2694 c2610 f2695) ∧ (mortiseref07_state_head.j2 K x2565 x2577 at_2691 l_2694 any2697).wp kr kp) (fun J2698 hJ2698 => ?_) ?_
          · refine wp_seq ?_
            refine wp_region_list ?_
            refine st1 hS (asg rfl) rfl fun a w hS => ?_
            refine wpList_nil ?_
            refine then_n ?_
            refine wp_block ?_
            refine s_loopJ (fun k2668 a w => ∃ (at_2660 : Int) (f2661 : Frag) (l_2663 : (List Int)) (f2664 : Frag) (any2666 : Bool) (i2667 : Int), Ss 97 [] [(0, ptr b2548 0), (4, ptr b2558 0), (6, .int .i64 x2565), (8, .int .i64 x2577), (10, .int .i64 x2589), (12, .slice A2609 l_2663.length c2610), (13, .slice A2624 ([(16 : Int), (17 : Int), (18 : Int), (0 : Int), (8 : Int), (7 : Int), (9 : Int), (6 : Int), (10 : Int), (5 : Int), (11 : Int), (4 : Int), (12 : Int), (3 : Int), (13 : Int), (2 : Int), (14 : Int), (1 : Int), (15 : Int)] : List Int).length c2625), (14, .bool any2666), (15, .int .i64 i2667)] H [f2549, f2661, f2556, f2559, f2561, f2563, f2664, f2626] F a w ∧ (Blk f2661 b2551 ([str s2547.r_.S_, .int .i64 at_2660]) 49) ∧ (Vec 3 (ci .i64) 1 A2609 l_2663 c2610 f2664) ∧ (mortiseref07_state_head.l1 K s2547 x2565 x2577 x2589 k2668 at_2660 l_2663 any2666 i2667).wp kr kp) K ?_ ?_ ?_
            · exact ⟨at_2591, f2592, zs2613, f2611, false, (0 : Int), hS.to [2, 3, 4, 7, 6, 5, 1, 0] (by kernel_rfl) ⟨rfl, rfl, rfl, rfl, rfl, rfl, rfl, rfl, rfl, trivial⟩, h2593, hV2612, hM⟩
            · intro a w hI; obtain ⟨_, _, _, _, _, _, _, _, _, hM⟩ := hI; exact hM
            · intro k2668 a w hI J2690 hJ2690
              obtain ⟨at_2660, f2661, l_2663, f2664, any2666, i2667, hS, hB2662, hV2665, hM⟩ := hI
              rw [mortiseref07_state_head.l1] at hM
              refine wp_seq ?_
              refine wp_seq ?_
              refine wp_region_list ?_
              refine st1 hS (mv rfl) rfl fun a w hS => ?_
              refine st1 hS (mv rfl) rfl fun a w hS => ?_
              refine st1 hS (bin rfl rfl rfl) rfl fun a w hS => ?_
              refine wpList_nil ?_
              refine then_n ?_
              refine s_cond hS rfl hM (fun hb2669 hM => ?_) (fun hb2669 hM => ?_)
              · refine wp_skip ?_
                refine then_n ?_
                refine wp_seq ?_
                refine wp_block ?_
                refine wp_seq ?_
                refine wp_region_list ?_
                refine st1 hS (mv rfl) rfl fun a w hS => ?_
                refine s_call hS rfl Tryd.call27 (mortiseref07_state_bits_c hG K (T_mortiseref07_state.mk (T_mortiseref05_Reader.mk s2547.r_.S_ at_2660) s2547.out_ s2547.limit_) (3 : Int) (0 : Int) b2548 f2549 b2551 f2661 A2554 c2555 f2556 hB2550 hB2662 hV2557 (hS.st.part 3 [0, 1, 2, 3, 4, 5, 6, 7] (by kernel_rfl)) (wp_bind hM) (fun x2670 x2671 at_2672 f2673 w hM h2674 hst => s_back hS.ev hst.appF rfl fun hS => ?_))
                replace hS : Ss _ _ _ H [f2549, f2673, f2556, f2559, f2561, f2563, f2664, f2626] F _ _ := hS
                refine st1 hS (mv rfl) rfl fun a w hS => ?_
                refine st1 hS (ex rfl rfl) rfl fun a w hS => ?_
                refine st1 hS (ex rfl rfl) rfl fun a w hS => ?_
                refine st1 hS (asg rfl) rfl fun a w hS => ?_
                refine st1 hS (asg rfl) rfl fun a w hS => ?_
                refine wpList_nil ?_
                refine then_n ?_
                refine wp_seq ?_
                refine wp_seq ?_
                refine wp_region_list ?_
                refine st1 hS (mv rfl) rfl fun a w hS => ?_
                refine st1 hS (bin rfl rfl rfl) rfl fun a w hS => ?_
                refine wpList_nil ?_
                refine then_n ?_
                refine s_cond hS rfl hM (fun hb2675 hM => ?_) (fun hb2675 hM => ?_)
                · refine wp_seq ?_
                  refine wp_region_list ?_
                  refine st1 hS (bld ([.slice none 0 0, .slice none 0 0]) [(0, 1), (1, 1)] Tryd.zeroValue71 Tryd.runUnderlying71 (by intro w; simp [Tryd.sizeOf67]) rfl rfl) rfl fun a w hS => ?_
                  refine st1 hS (mv rfl) rfl fun a w hS => ?_
                  refine st1 hS (asg rfl) rfl fun a w hS => ?_
                  refine st1 hS (asg rfl) rfl fun a w hS => ?_
                  refine stB 3 ([.slice none 0 0, .slice none 0 0]) ([.slice none 0 0, .slice none 0 0]) hS rfl rfl hB2560 rfl rfl Tryd.sizeOf71 (by simp [Value.oneCell']) (Nat.le_of_ble_eq_true rfl) rfl fun w f2676 hB2677 hS => ?_
                  obtain ⟨f2678, hV2679, hS⟩ := hS.nilV 3 (ci .i64) 1
                  obtain ⟨f2680, hV2681, hS⟩ := hS.nilV 3 (ci .i64) 1
                  refine st1 hS (asg rfl) rfl fun a w hS => ?_
                  refine wpList_nil ?_
                  refine then_n ?_
                  refine wp_ret ?_
                  refine then_ret (blk_ret (then_ret (then_ret (blk_ret (then_ret ?_)))))
                  exact s_retC (vs := [.int .i64 (0 : Int), .int .i64 (0 : Int), .agg ⟨[.slice none ([] : List Int).length (0), .slice none ([] : List Int).length (0)]⟩, .int .i64 x2671]) hS rfl (by exact ⟨rvT rfl, rvT rfl, rvA 5 ([.slice none ([] : List Int).length (0), .slice none ([] : List Int).length (0)]) rfl hB2677 rfl rfl rfl Tryd.isAgg71 Tryd.sizeOf71, rvT rfl, trivial⟩) (hret (0 : Int) (0 : Int) none (0) ([] : List Int) f2678 none (0) ([] : List Int) f2680 x2671 at_2672 f2673 w hM hV2679 hV2681 h2674 (hS.st.pick [1, 0, 2, 3, 4] (by kernel_rfl)))
                · refine wp_skip ?_
                  refine then_n ?_
                  refine wp_seq ?_
                  refine wp_region_list ?_
                  refine st1 hS (mv rfl) rfl fun a w hS => ?_
                  refine st1 hS (mv rfl) rfl fun a w hS => ?_
                  refine st1 hS (mv rfl) rfl fun a w hS => ?_
                  obtain ⟨hk2682, hM⟩ := wp_chk hM
                  refine st1 hS (ixV rfl rfl Tryd.runUnderlying67 Tryd.sizeOf3 (h2627.rd (i := 7) rfl) (fun _ => rfl) rfl hk2682) rfl fun a w hS => ?_
                  refine st1 hS (ldV0 rfl (h2627.rd (i := 7) rfl) (fun _ => rfl) hk2682 rfl Tryd.isAgg3) rfl fun a w hS => ?_
                  refine st1 hS (mv rfl) rfl fun a w hS => ?_
                  obtain ⟨hk2683, hM⟩ := wp_chk hM
                  refine st1 hS (ixV rfl rfl Tryd.runUnderlying67 Tryd.sizeOf3 (hV2665.rd (i := 6) rfl) (fun _ => rfl) rfl hk2683) rfl fun a w hS => ?_
                  refine stV 6 0 (x2670) hS rfl rfl hV2665 rfl Tryd.sizeOf3 (one_t3 x2670) (fun _ => rfl) hk2683 rfl rfl fun zs2686 w f2684 hz hz2687 hV2685 hS => ?_
                  have hM := lt_to hz hM; clear hz
                  replace hS := hS.re 12 (u := .slice A2609 l_2663.length c2610) (v := .slice A2609 zs2686.length c2610) rfl (by rw [hz2687])
                  replace hS := hS.re 70 (u := .slice A2609 l_2663.length c2610) (v := .slice A2609 zs2686.length c2610) rfl (by rw [hz2687])
                  refine wpList_nil ?_
                  refine then_n ?_
                  refine wp_region_list ?_
                  refine st1 hS (mv rfl) rfl fun a w hS => ?_
                  refine st1 hS (mv rfl) rfl fun a w hS => ?_
                  refine g_op 2 false 78 (b := any2666) (r := (decide (x2670 > (0 : Int)))) hS rfl rfl rfl rfl rfl rfl rfl (fun hb a w hS K hK => ?_) rfl fun a w hS => ?_
                  · refine st1g hS rfl rfl rfl hb (mv rfl) rfl fun a w hS => ?_
                    refine st1g hS rfl rfl rfl hb (bin rfl rfl rfl) rfl fun a w hS => ?_
                    exact wpList_nil (hK _ _ (hS.up 2 rfl rfl))
                  refine st1x (v := Value.bool) hS (asg rfl) rfl fun any2688 a w hz hS => ?_
                  have hM := lt_to hz hM; clear hz
                  refine wpList_nil ?_
                  refine blk_n (then_n ?_)
                  refine wp_region_list ?_
                  refine st1 hS (mv rfl) rfl fun a w hS => ?_
                  refine st1 hS (bin rfl rfl rfl) rfl fun a w hS => ?_
                  refine st1x (v := Value.int .i64) hS (asg rfl) rfl fun i2689 a w hz hS => ?_
                  have hM := lt_to hz hM; clear hz
                  refine wpList_nil ?_
                  refine then_n ?_
                  exact hJ2690 _ _ ⟨at_2672, f2673, zs2686, f2684, any2688, i2689, hS.to [0, 1, 2, 3, 4, 5, 6, 7] (by kernel_rfl) ⟨rfl, rfl, rfl, rfl, rfl, rfl, rfl, rfl, rfl, trivial⟩, h2674, hV2685, hM⟩
              · refine wp_exit ?_
                refine then_ex (then_ex (blk_same (then_n ?_)))
                exact hJ2698 _ _ ⟨at_2660, f2661, l_2663, f2664, any2666, hS.to [0, 1, 2, 3, 4, 5, 6] (by kernel_rfl) ⟨rfl, rfl, rfl, rfl, rfl, trivial⟩, hB2662, hV2665, hM⟩
          · intro a w hI
            obtain ⟨at_2691, f2692, l_2694, f2695, any2697, hS, hB2693, hV2696, hM⟩ := hI
            rw [mortiseref07_state_head.j2] at hM
            refine wp_seq ?_
            refine wp_region_list ?_
            refine st1 hS (mv rfl) rfl fun a w hS => ?_
            refine s_call hS rfl Tryd.call30 (mortiseref07_coded_c hG K l_2694 A2609 c2610 (hV2696.rdF (i := 6) rfl) (hV2696.cap (fun _ => rfl) rfl) (hS.st.part 0 [0, 1, 2, 3, 4, 5, 6] (by kernel_rfl)) (wp_bind hM) (fun A2699 c2700 codes2701 f2702 x2703 w hM h2704 hst => s_back hS.ev hst.appF rfl fun hS => ?_))
            replace hS : Ss _ _ _ H [f2702, f2549, f2692, f2556, f2559, f2561, f2563, f2695] F _ _ := hS
            refine st1 hS (mv rfl) rfl fun a w hS => ?_
            refine st1 hS (ex rfl rfl) rfl fun a w hS => ?_
            refine st1 hS (ex rfl rfl) rfl fun a w hS => ?_
            refine alc ([.slice none 0 0, .slice none 0 0]) hS Tryd.zeroValue71 rfl rfl fun w b2705 f2706 hB2707 hS => ?_
            obtain ⟨f2708, hV2709, hS⟩ := hS.nilV 3 (ci .i64) 1
            obtain ⟨f2710, hV2711, hS⟩ := hS.nilV 3 (ci .i64) 1
            refine stB 2 ([.slice A2609 l_2694.length c2610, .slice A2699 codes2701.length c2700]) ([.slice A2609 l_2694.length c2610, .slice A2699 codes2701.length c2700]) hS rfl rfl hB2707 rfl rfl Tryd.sizeOf71 (by simp [Value.oneCell']) (Nat.le_of_ble_eq_true rfl) rfl fun w f2712 hB2713 hS => ?_
            refine st1 hS (asg rfl) rfl fun a w hS => ?_
            refine wpList_nil ?_
            refine then_n ?_
            refine wp_seq ?_
            refine wp_seq ?_
            refine wp_region_list ?_
            refine st1 hS (mv rfl) rfl fun a w hS => ?_
            refine st1 hS (un rfl rfl) rfl fun a w hS => ?_
            refine st1 hS (mv rfl) rfl fun a w hS => ?_
            refine g_op 2 false 89 (b := (!x2703)) (r := (!any2697)) hS rfl rfl rfl rfl rfl rfl rfl (fun hb a w hS K hK => ?_) rfl fun a w hS => ?_
            · refine st1g hS rfl rfl rfl hb (mv rfl) rfl fun a w hS => ?_
              refine st1g hS rfl rfl rfl hb (un rfl rfl) rfl fun a w hS => ?_
              exact wpList_nil (hK _ _ (hS.up 2 rfl rfl))
            refine wpList_nil ?_
            refine then_n ?_
            refine s_cond hS rfl hM (fun hb2714 hM => ?_) (fun hb2714 hM => ?_)
            · refine wp_seq ?_
              refine wp_region_list ?_
              refine st1 hS (bld ([.slice none 0 0, .slice none 0 0]) [(0, 1), (1, 1)] Tryd.zeroValue71 Tryd.runUnderlying71 (by intro w; simp [Tryd.sizeOf67]) rfl rfl) rfl fun a w hS => ?_
              refine st1 hS (asg rfl) rfl fun a w hS => ?_
              refine st1 hS (asg rfl) rfl fun a w hS => ?_
              refine stB 7 ([.slice none 0 0, .slice none 0 0]) ([.slice none 0 0, .slice none 0 0]) hS rfl rfl hB2560 rfl rfl Tryd.sizeOf71 (by simp [Value.oneCell']) (Nat.le_of_ble_eq_true rfl) rfl fun w f2715 hB2716 hS => ?_
              obtain ⟨f2717, hV2718, hS⟩ := hS.nilV 3 (ci .i64) 1
              obtain ⟨f2719, hV2720, hS⟩ := hS.nilV 3 (ci .i64) 1
              refine st1 hS (asg rfl) rfl fun a w hS => ?_
              refine wpList_nil ?_
              refine then_n ?_
              refine wp_ret ?_
              refine then_ret ?_
              exact s_retC (vs := [.int .i64 (0 : Int), .int .i64 (0 : Int), .agg ⟨[.slice none ([] : List Int).length (0), .slice none ([] : List Int).length (0)]⟩, .int .i64 (3 : Int)]) hS rfl (by exact ⟨rvT rfl, rvT rfl, rvA 9 ([.slice none ([] : List Int).length (0), .slice none ([] : List Int).length (0)]) rfl hB2716 rfl rfl rfl Tryd.isAgg71 Tryd.sizeOf71, rvT rfl, trivial⟩) (hret (0 : Int) (0 : Int) none (0) ([] : List Int) f2717 none (0) ([] : List Int) f2719 (3 : Int) at_2691 f2692 w hM hV2718 hV2720 hB2693 (hS.st.pick [1, 0, 6, 7, 8] (by kernel_rfl)))
            · refine wp_skip ?_
              refine then_n ?_
              refine wp_seq ?_
              refine draw_begin (vals := [some (.int .i64 x2565), some (.int .i64 x2577), some (.agg ⟨[.slice A2609 l_2694.length c2610, .slice A2699 codes2701.length c2700]⟩), some (.int .i64 x2565), some (.int .i64 x2577), none, none]) hS mixed rfl ?_
              intro l w ho hcl hA hst
              refine phase' (vals := [some (.int .i64 x2565), some (.int .i64 x2577), some (.agg ⟨[.slice A2609 l_2694.length c2610, .slice A2699 codes2701.length c2700]⟩), some (.int .i64 x2565), some (.int .i64 x2577), none, none]) 5 [] [0, 1, 2, 3, 4] rfl rfl rfl rfl (by exact ⟨nR rfl rfl rfl rfl rfl (by exact ovE (mv rfl) rfl), nR rfl rfl rfl rfl rfl (by exact ovE (mv rfl) rfl), nR rfl rfl rfl rfl rfl (by exact ovE (ldbA 2 rfl hB2713 rfl ([.slice A2609 l_2694.length c2610, .slice A2699 codes2701.length c2700]) rfl rfl Tryd.isAgg71 Tryd.sizeOf71) rfl), nR rfl rfl rfl rfl rfl (by exact ovE (asg rfl) rfl), nR rfl rfl rfl rfl rfl (by exact ovE (asg rfl) rfl), trivial⟩) (fun D l a w ho hcl hav hpre hm hE hk hA hst => ?_) ho hcl (fun j hj => (List.not_mem_nil hj).elim) (fun m hm => (List.not_mem_nil hm).elim) List.not_mem_nil hA hst
              have hS := (Ss.mk hE hst).env2 (e' := [(4, ptr b2558 0), (96, .agg ⟨[.slice A2609 l_2694.length c2610, .slice A2699 codes2701.length c2700]⟩)]) ⟨rfl, rfl, trivial⟩
              refine op_of_nth rfl ?_
              refine stB 7 ([.slice A2609 l_2694.length c2610, .slice A2699 codes2701.length c2700]) ([.slice A2609 l_2694.length c2610, .slice A2699 codes2701.length c2700]) hS rfl rfl hB2560 rfl rfl Tryd.sizeOf71 (by simp [Value.oneCell']) (Nat.le_of_ble_eq_true rfl) rfl fun w f2721 hB2722 hS => ?_
              refine wpList_nil (then_n ?_)
              have hcl2 := hcl.cons (k := 5) (nth_get rfl) hpre
              have hmust := must_cons (k := 5) hm (chain (k := 5) hcl (nth_get rfl) hpre [(0, 5), (1, 5), (2, 5), (3, 5), (4, 5)] [] rfl (fun _ h => absurd h List.not_mem_nil))
              replace hst := hS.st
              have hav2 := hav.cons (vals' := [some (.int .i64 x2565), some (.int .i64 x2577), some (.agg ⟨[.slice A2609 l_2694.length c2610, .slice A2699 codes2701.length c2700]⟩), some (.int .i64 x2565), some (.int .i64 x2577), some undef, some (.int .i64 (0 : Int))]) (k := 5) ⟨rfl, rfl, rfl, rfl, rfl, trivial⟩ rfl
              replace hA := (hA.next hav (subV.get (l' := [some (.int .i64 x2565), some (.int .i64 x2577), some (.agg ⟨[.slice A2609 l_2694.length c2610, .slice A2699 codes2701.length c2700]⟩), some (.int .i64 x2565), some (.int .i64 x2577), some undef, some (.int .i64 (0 : Int))]) ⟨rfl, rfl, rfl, rfl, rfl, trivial⟩)).stepN (i := 5) (nth_get rfl) rfl
              clear hm hav
              replace hcl := hcl2
              refine phaseE (vals := [some (.int .i64 x2565), some (.int .i64 x2577), some (.agg ⟨[.slice A2609 l_2694.length c2610, .slice A2699 codes2701.length c2700]⟩), some (.int .i64 x2565), some (.int .i64 x2577), some undef, some (.int .i64 (0 : Int))]) [5, 0, 1, 2, 3, 4] [6] rfl rfl rfl (by exact ⟨nR rfl rfl rfl rfl rfl (by exact ovE (asg rfl) rfl), trivial⟩) (fun a w hS => ?_) ho hcl hmust hA hst
              replace hS := hS.env2 (e' := [(2, .int .i64 x2565), (3, .int .i64 x2577), (4, ptr b2558 0), (5, .int .i64 (0 : Int))]) ⟨rfl, rfl, rfl, rfl, trivial⟩
              refine then_n ?_
              refine wp_ret ?_
              exact s_retC (vs := [.int .i64 x2565, .int .i64 x2577, .agg ⟨[.slice A2609 l_2694.length c2610, .slice A2699 codes2701.length c2700]⟩, .int .i64 (0 : Int)]) hS rfl (by exact ⟨rvT rfl, rvT rfl, rvA 7 ([.slice A2609 l_2694.length c2610, .slice A2699 codes2701.length c2700]) rfl hB2722 rfl rfl rfl Tryd.isAgg71 Tryd.sizeOf71, rvT rfl, trivial⟩) (hret x2565 x2577 A2609 c2610 l_2694 f2695 A2699 c2700 codes2701 f2702 (0 : Int) at_2691 f2692 w hM hV2696 h2704 hB2693 (hS.st.pick [10, 3, 4, 5, 6] (by kernel_rfl)))

theorem mortiseref07_state_row_c {H : Imm} {F : List Frag} {w : World} {R : Ending → World → Prop} {kr : ((List Int) × Int × Int) → Prop} {kp : Value → Prop} (hG : Gl H) (K : Nat) (s2765 : T_mortiseref07_state) (n_2776 : Int) (c_2777 : T_mortiseref07_code) (b2766 : Nat) (f2767 : Frag) (b2769 : Nat) (f2770 : Frag) (A2772 : Option Addr) (c2773 : Nat) (f2774 : Frag) (A2778 : Option Addr) (c2779 : Nat) (A2782 : Option Addr) (c2783 : Nat) (hB2768 : Blk f2767 b2766 ([ptr b2769 0, .slice A2772 s2765.out_.length c2773, .int .i64 s2765.limit_]) 51) (hB2771 : Blk f2770 b2769 ([str s2765.r_.S_, .int .i64 s2765.r_.At_]) 49) (hV2775 : Vec 5 (ci .u8) 1 A2772 s2765.out_ c2773 f2774) (hr2780 : Rdl H [] F (ci .i64) A2778 c_2777.l_) (hc2781 : c_2777.l_.length ≤ c2779) (hr2784 : Rdl H [] F (ci .i64) A2782 c_2777.codes_) (hc2785 : c_2777.codes_.length ≤ c2783)
    (hS : St w H [f2767, f2770, f2774] F) (hm : (mortiseref07_state_row.m K s2765 n_2776 c_2777).wp kr kp)
    (hret : ∀ (A3006 : Option Addr) (c3007 : Nat) (x3008 : (List Int)) (f3009 : Frag) (x3011 : Int) (at_3012 : Int) (f3013 : Frag) (w : World), kr (x3008, x3011, at_3012) → (Vec 3 (ci .i64) 1 A3006 x3008 c3007 f3009) → (Blk f3013 b2769 ([str s2765.r_.S_, .int .i64 at_3012]) 49) → St w H [f3009, f2767, f3013, f2774] F → R (.returned (.tuple ⟨[.slice A3006 x3008.length c3007, .int .i64 x3011]⟩)) w) :
    Calls Tryd.prog 46 ⟨[ptr b2766 0, .int .i64 n_2776, .agg ⟨[.slice A2778 c_2777.l_.length c2779, .slice A2782 c_2777.codes_.length c2783]⟩]⟩ w R := by
  refine enter Tryd.func46 rfl Tryd.ntmps46 rfl hS fun a w hS => ?_
  have hM := hm; clear hm
  rw [mortiseref07_state_row.m] at hM
  refine wp_seq ?_
  refine wp_region_list ?_
  refine bx ([.slice A2778 c_2777.l_.length c2779, .slice A2782 c_2777.codes_.length c2783]) hS rfl rfl rfl fun w b2786 f2787 hB2788 hS => ?_
  refine st1 hS (asg rfl) rfl fun a w hS => ?_
  obtain ⟨f2789, hV2790, hS⟩ := hS.nilV 3 (ci .i64) 1
  refine st1 hS (asg rfl) rfl fun a w hS => ?_
  refine wpList_nil ?_
  refine then_n ?_
  refine wp_seq ?_
  refine wp_region_list ?_
  refine st1 hS (asg rfl) rfl fun a w hS => ?_
  obtain ⟨f2791, hV2792, hS⟩ := hS.nilV 3 (ci .i64) 1
  refine wpList_nil ?_
  refine then_n ?_
  refine wp_seq ?_
  refine wp_block ?_
  refine s_loopJ (fun k2907 a w => ∃ (at_2899 : Int) (f2900 : Frag) (A2902 : Option Addr) (c2903 : Nat) (out2904 : (List Int)) (f2905 : Frag), Ss 87 [] [(0, ptr b2766 0), (1, .int .i64 n_2776), (5, ptr b2786 0), (8, .slice A2902 out2904.length c2903)] H [f2767, f2900, f2774, f2787, f2905] F a w ∧ (Blk f2900 b2769 ([str s2765.r_.S_, .int .i64 at_2899]) 49) ∧ (Vec 3 (ci .i64) 1 A2902 out2904 c2903 f2905) ∧ (mortiseref07_state_row.l1 K s2765 n_2776 c_2777 k2907 at_2899 out2904).wp kr kp) K ?_ ?_ ?_
  · exact ⟨s2765.r_.At_, f2770, none, 0, ([] : List Int), f2791, hS.to [3, 4, 5, 2, 0] (by kernel_rfl) ⟨rfl, rfl, rfl, rfl, trivial⟩, hB2771, hV2792, hM⟩
  · intro a w hI; obtain ⟨_, _, _, _, _, _, _, _, _, hM⟩ := hI; exact hM
  · intro k2907 a w hI J3005 hJ3005
    obtain ⟨at_2899, f2900, A2902, c2903, out2904, f2905, hS, hB2901, hV2906, hM⟩ := hI
    rw [mortiseref07_state_row.l1] at hM
    refine wp_seq ?_
    refine wp_seq ?_
    refine wp_region_list ?_
    refine st1 hS (mv rfl) rfl fun a w hS => ?_
    refine st1 hS (lenV rfl Tryd.runUnderlying67) rfl fun a w hS => ?_
    refine st1 hS (mv rfl) rfl fun a w hS => ?_
    refine st1 hS (bin rfl rfl rfl) rfl fun a w hS => ?_
    refine wpList_nil ?_
    refine then_n ?_
    refine s_cond hS rfl hM (fun hb2908 hM => ?_) (fun hb2908 hM => ?_)
    · refine wp_skip ?_
      refine then_n ?_
      refine wp_block ?_
      refine wp_seq ?_
      refine draw_begin (vals := [some (ptr b2786 0), some (.slice A2778 c_2777.l_.length c2779), some (ptr b2786 1), some (.slice A2782 c_2777.codes_.length c2783), some (ptr b2766 0), some (ptr b2766 0), some (ptr b2766 0), some (ptr b2769 0), none, none, none, none, none, none]) hS mixed rfl ?_
      intro l w ho hcl hA hst
      refine phase' (vals := [some (ptr b2786 0), some (.slice A2778 c_2777.l_.length c2779), some (ptr b2786 1), some (.slice A2782 c_2777.codes_.length c2783), some (ptr b2766 0), some (ptr b2766 0), some (ptr b2766 0), some (ptr b2769 0), none, none, none, none, none, none]) 8 [] [0, 1, 2, 3, 4, 5, 6, 7] rfl rfl rfl rfl (by exact ⟨nR rfl rfl rfl rfl rfl (by exact ovE (fad rfl Tryd.runUnderlying71 rfl Tryd.sizeOf67 rfl) rfl), nR rfl rfl rfl rfl rfl (by exact ovE (ldb 3 rfl hB2788 rfl rfl Tryd.isAgg67) rfl), nR rfl rfl rfl rfl rfl (by exact ovE (fad rfl Tryd.runUnderlying71 rfl Tryd.sizeOf67 rfl) rfl), nR rfl rfl rfl rfl rfl (by exact ovE (ldb 3 rfl hB2788 rfl rfl Tryd.isAgg67) rfl), nR rfl rfl rfl rfl rfl (by exact ovE (mv rfl) rfl), nR rfl rfl rfl rfl rfl (by exact ovE (nck rfl) rfl), nR rfl rfl rfl rfl rfl (by exact ovE (fad rfl Tryd.runUnderlying51 rfl Tryd.sizeOf47 rfl) rfl), nR rfl rfl rfl rfl rfl (by exact ovE (ldb 0 rfl hB2768 rfl rfl Tryd.isAgg47) rfl), trivial⟩) (fun D l a w ho hcl hav hpre hm hE hk hA hst => ?_) ho hcl (fun j hj => (List.not_mem_nil hj).elim) (fun m hm => (List.not_mem_nil hm).elim) List.not_mem_nil hA hst
      have hS := (Ss.mk hE hst).env2 (e' := [(20, .slice A2778 c_2777.l_.length c2779), (22, .slice A2782 c_2777.codes_.length c2783), (26, ptr b2769 0)]) ⟨rfl, rfl, rfl, trivial⟩
      refine op_of_nth rfl ?_
      refine s_call hS rfl Tryd.call43 (mortiseref06_Next_c hG K c_2777.l_ c_2777.codes_ (T_mortiseref05_Reader.mk s2765.r_.S_ at_2899) A2778 c2779 A2782 c2783 b2769 f2900 (hr2780.app _) hc2781 (hr2784.app _) hc2785 hB2901 (hS.st.part 1 [1, 0, 2, 3, 4] (by kernel_rfl)) (wp_bind hM) (fun x2909 x2910 at_2911 f2912 w hM h2913 hst => s_back hS.ev hst.appF rfl fun hS => ?_))
      replace hS : Ss _ _ _ H [f2912, f2767, f2774, f2787, f2905] F _ _ := hS
      refine wpList_nil (then_n ?_)
      have hcl2 := hcl.cons (k := 8) (nth_get rfl) hpre
      have hmust := must_cons (k := 8) hm (chain (k := 8) hcl (nth_get rfl) hpre [(1, 8), (3, 8), (7, 8), (0, 1), (2, 3), (6, 7), (5, 6), (4, 5)] [] rfl (fun _ h => absurd h List.not_mem_nil))
      replace hst := hS.st
      have hav2 := hav.cons (vals' := [some (ptr b2786 0), some (.slice A2778 c_2777.l_.length c2779), some (ptr b2786 1), some (.slice A2782 c_2777.codes_.length c2783), some (ptr b2766 0), some (ptr b2766 0), some (ptr b2766 0), some (ptr b2769 0), some (.tuple ⟨[.int .i64 x2909, .int .i64 x2910]⟩), some (.tuple ⟨[.int .i64 x2909, .int .i64 x2910]⟩), some (.int .i64 x2909), some (.int .i64 x2910), some (.int .i64 x2909), some (.int .i64 x2910)]) (k := 8) ⟨rfl, rfl, rfl, rfl, rfl, rfl, rfl, rfl, trivial⟩ rfl
      replace hA := (hA.next hav (subV.get (l' := [some (ptr b2786 0), some (.slice A2778 c_2777.l_.length c2779), some (ptr b2786 1), some (.slice A2782 c_2777.codes_.length c2783), some (ptr b2766 0), some (ptr b2766 0), some (ptr b2766 0), some (ptr b2769 0), some (.tuple ⟨[.int .i64 x2909, .int .i64 x2910]⟩), some (.tuple ⟨[.int .i64 x2909, .int .i64 x2910]⟩), some (.int .i64 x2909), some (.int .i64 x2910), some (.int .i64 x2909), some (.int .i64 x2910)]) ⟨rfl, rfl, rfl, rfl, rfl, rfl, rfl, rfl, trivial⟩)).step rfl (nth_get rfl) hk rfl rfl rfl
      clear hm hav
      replace hcl := hcl2
      refine phaseE (vals := [some (ptr b2786 0), some (.slice A2778 c_2777.l_.length c2779), some (ptr b2786 1), some (.slice A2782 c_2777.codes_.length c2783), some (ptr b2766 0), some (ptr b2766 0), some (ptr b2766 0), some (ptr b2769 0), some (.tuple ⟨[.int .i64 x2909, .int .i64 x2910]⟩), some (.tuple ⟨[.int .i64 x2909, .int .i64 x2910]⟩), some (.int .i64 x2909), some (.int .i64 x2910), some (.int .i64 x2909), some (.int .i64 x2910)]) [8, 1, 3, 7, 0, 2, 6, 5, 4] [9, 10, 11, 12, 13] rfl rfl rfl (by exact ⟨nR rfl rfl rfl rfl rfl (by exact ovE (mv rfl) rfl), nR rfl rfl rfl rfl rfl (by exact ovE (ex rfl rfl) rfl), nR rfl rfl rfl rfl rfl (by exact ovE (ex rfl rfl) rfl), nR rfl rfl rfl rfl rfl (by exact ovE (asg rfl) rfl), nR rfl rfl rfl rfl rfl (by exact ovE (asg rfl) rfl), trivial⟩) (fun a w hS => ?_) ho hcl hmust hA hst
      replace hS := hS.env2 (e' := [(0, ptr b2766 0), (1, .int .i64 n_2776), (5, ptr b2786 0), (8, .slice A2902 out2904.length c2903), (9, .int .i64 x2909), (10, .int .i64 x2910)]) ⟨rfl, rfl, rfl, rfl, rfl, rfl, trivial⟩
      refine then_n ?_
      refine wp_seq ?_
      refine wp_seq ?_
      refine wp_region_list ?_
      refine st1 hS (mv rfl) rfl fun a w hS => ?_
      refine st1 hS (bin rfl rfl rfl) rfl fun a w hS => ?_
      refine wpList_nil ?_
      refine then_n ?_
      refine s_cond hS rfl hM (fun hb2914 hM => ?_) (fun hb2914 hM => ?_)
      · refine wp_seq ?_
        refine wp_region_list ?_
        refine st1 hS (mv rfl) rfl fun a w hS => ?_
        refine st1 hS (asg rfl) rfl fun a w hS => ?_
        obtain ⟨f2915, hV2916, hS⟩ := hS.nilV 3 (ci .i64) 1
        refine st1 hS (asg rfl) rfl fun a w hS => ?_
        refine wpList_nil ?_
        refine then_n ?_
        refine wp_ret ?_
        refine then_ret (blk_ret (then_ret (blk_ret (then_ret ?_))))
        exact s_ret (rs := [6, 7]) hS rfl rfl (hret none (0) ([] : List Int) f2915 x2910 at_2911 f2912 w hM hV2916 h2913 (hS.st.pick [0, 2, 1, 3] (by kernel_rfl)))
      · refine wp_skip ?_
        refine then_n ?_
        refine wp_seq ?_
        refine wp_seq ?_
        refine wp_region_list ?_
        refine st1 hS (mv rfl) rfl fun a w hS => ?_
        refine st1 hS (bin rfl rfl rfl) rfl fun a w hS => ?_
        refine wpList_nil ?_
        refine then_n ?_
        refine s_cond hS rfl hM (fun hb2917 hM => ?_) (fun hb2917 hM => ?_)
        · refine wp_seq ?_
          refine wp_region_list ?_
          refine st1 hS (mv rfl) rfl fun a w hS => ?_
          refine st1 hS (mv rfl) rfl fun a w hS => ?_
          refine bsl (g := (ci .i64)) ([x2909] : List Int) [.int .i64 x2909] hS Tryd.runUnderlying67 Tryd.sizeOf3 X.el3 rfl rfl rfl (by simp [Value.cells]) rfl rfl rfl rfl rfl fun w A2918 c2919 f2920 hV2921 hS => ?_
          obtain ⟨hk2922, hM⟩ := wp_chk hM
          refine apV (ys := ([x2909] : List Int)) 5 hS rfl rfl hV2906 rfl (hV2921.rd (i := 0) rfl) Tryd.runUnderlying67 Tryd.runUnderlying67 X.el3 (fun _ => rfl) rfl one_t3 hk2922 rfl fun zs2927 w A2923 c2924 f2925 hz hV2926 hS => ?_
          have hM := lt_to hz hM; clear hz
          refine st1 hS (asg rfl) rfl fun a w hS => ?_
          refine wpList_nil ?_
          refine then_n ?_
          refine wp_exit ?_
          refine then_ex (blk_same (then_n ?_))
          exact hJ3005 _ _ ⟨at_2911, f2912, A2923, c2924, zs2927, f2925, hS.to [2, 1, 3, 4, 5] (by kernel_rfl) ⟨rfl, rfl, rfl, rfl, trivial⟩, h2913, hV2926, hM⟩
        · refine wp_skip ?_
          refine then_n ?_
          refine wp_seq ?_
          refine wp_region_list ?_
          refine st1 hS (asg rfl) rfl fun a w hS => ?_
          refine wpList_nil ?_
          refine then_n ?_
          refine wp_seq ?_
          refine wp_region_list ?_
          refine st1 hS (asg rfl) rfl fun a w hS => ?_
          refine wpList_nil ?_
          refine then_n ?_
          refine seq_joinJ (fun a w => ∃ (at_2952 : Int) (f2953 : Frag) (e_2955 : Int) (value2956 : Int) (times2957 : Int), Ss 87 [] [(0, ptr b2766 0), (1, .int .i64 n_2776), (5, ptr b2786 0), (8, .slice A2902 out2904.length c2903), (10, .int .i64 e_2955), (11, .int .i64 value2956), (12, .int .i64 times2957)] H [f2767, f2953, f2774, f2787, f2905] F a w ∧ (Blk f2953 b2769 ([str s2765.r_.S_, .int .i64 at_2952]) 49) ∧ (mortiseref07_state_row.j2 K (mortiseref07_state_row.l1 K s2765 n_2776 c_2777 k2907) n_2776 out2904 at_2952 e_2955 value2956 times2957).wp kr kp) (fun J2958 hJ2958 => ?_) ?_
          · refine wp_seq ?_
            refine wp_region_list ?_
            refine st1 hS (mv rfl) rfl fun a w hS => ?_
            refine wpList_nil ?_
            refine then_n ?_
            refine wp_block ?_
            refine wp_seq ?_
            refine wp_region_list ?_
            refine st1 hS (bin rfl rfl rfl) rfl fun a w hS => ?_
            refine st1x (v := Value.bool) hS (asg rfl) rfl fun v2928 a w hz hS => ?_
            have hM := lt_to hz hM; clear hz
            refine wpList_nil ?_
            refine then_n ?_
            refine s_cond hS rfl hM (fun hb2929 hM => ?_) (fun hb2929 hM => ?_)
            · refine wp_seq ?_
              refine wp_seq ?_
              refine wp_region_list ?_
              refine st1 hS (mv rfl) rfl fun a w hS => ?_
              refine st1 hS (lenV rfl Tryd.runUnderlying67) rfl fun a w hS => ?_
              refine st1 hS (bin rfl rfl rfl) rfl fun a w hS => ?_
              refine wpList_nil ?_
              refine then_n ?_
              refine s_cond hS rfl hM (fun hb2930 hM => ?_) (fun hb2930 hM => ?_)
              · refine wp_seq ?_
                refine wp_region_list ?_
                refine st1 hS (asg rfl) rfl fun a w hS => ?_
                obtain ⟨f2931, hV2932, hS⟩ := hS.nilV 3 (ci .i64) 1
                refine st1 hS (asg rfl) rfl fun a w hS => ?_
                refine wpList_nil ?_
                refine then_n ?_
                refine wp_ret ?_
                refine then_ret (blk_ret (then_ret (blk_ret (then_ret (blk_ret (then_ret ?_))))))
                exact s_ret (rs := [6, 7]) hS rfl rfl (hret none (0) ([] : List Int) f2931 (3 : Int) at_2911 f2912 w hM hV2932 h2913 (hS.st.pick [0, 2, 1, 3] (by kernel_rfl)))
              · refine wp_skip ?_
                refine then_n ?_
                refine wp_seq ?_
                refine wp_region_list ?_
                refine st1 hS (mv rfl) rfl fun a w hS => ?_
                refine st1 hS (mv rfl) rfl fun a w hS => ?_
                refine st1 hS (lenV rfl Tryd.runUnderlying67) rfl fun a w hS => ?_
                refine st1 hS (bin rfl rfl rfl) rfl fun a w hS => ?_
                obtain ⟨hk2933, hM⟩ := wp_chk hM
                refine st1 hS (ixV rfl rfl Tryd.runUnderlying67 Tryd.sizeOf3 (hV2906.rd (i := 4) rfl) (fun _ => rfl) rfl hk2933) rfl fun a w hS => ?_
                refine st1 hS (ldV0 rfl (hV2906.rd (i := 4) rfl) (fun _ => rfl) hk2933 rfl Tryd.isAgg3) rfl fun a w hS => ?_
                refine st1x (v := Value.int .i64) hS (asg rfl) rfl fun value2934 a w hz hS => ?_
                have hM := lt_to hz hM; clear hz
                refine wpList_nil ?_
                refine then_n ?_
                refine wp_region_list ?_
                refine st1 hS (mv rfl) rfl fun a w hS => ?_
                refine s_call hS rfl Tryd.call27 (mortiseref07_state_bits_c hG K (T_mortiseref07_state.mk (T_mortiseref05_Reader.mk s2765.r_.S_ at_2911) s2765.out_ s2765.limit_) (2 : Int) (3 : Int) b2766 f2767 b2769 f2912 A2772 c2773 f2774 hB2768 h2913 hV2775 (hS.st.part 3 [1, 0, 2, 3, 4] (by kernel_rfl)) (wp_bind hM) (fun x2935 x2936 at_2937 f2938 w hM h2939 hst => s_back hS.ev hst.appF rfl fun hS => ?_))
                replace hS : Ss _ _ _ H [f2767, f2938, f2774, f2787, f2905] F _ _ := hS
                refine st1 hS (mv rfl) rfl fun a w hS => ?_
                refine st1 hS (ex rfl rfl) rfl fun a w hS => ?_
                refine st1 hS (ex rfl rfl) rfl fun a w hS => ?_
                refine st1 hS (asg rfl) rfl fun a w hS => ?_
                refine st1 hS (asg rfl) rfl fun a w hS => ?_
                refine wpList_nil ?_
                refine blk_n (then_n ?_)
                exact hJ2958 _ _ ⟨at_2937, f2938, x2936, value2934, x2935, hS.to [0, 1, 2, 3, 4] (by kernel_rfl) ⟨rfl, rfl, rfl, rfl, rfl, rfl, rfl, trivial⟩, h2939, hM⟩
            · refine wp_seq ?_
              refine wp_region_list ?_
              refine st1 hS (bin rfl rfl rfl) rfl fun a w hS => ?_
              refine st1x (v := Value.bool) hS (asg rfl) rfl fun v2940 a w hz hS => ?_
              have hM := lt_to hz hM; clear hz
              refine wpList_nil ?_
              refine then_n ?_
              refine s_cond hS rfl hM (fun hb2941 hM => ?_) (fun hb2941 hM => ?_)
              · refine wp_region_list ?_
                refine st1 hS (mv rfl) rfl fun a w hS => ?_
                refine s_call hS rfl Tryd.call27 (mortiseref07_state_bits_c hG K (T_mortiseref07_state.mk (T_mortiseref05_Reader.mk s2765.r_.S_ at_2911) s2765.out_ s2765.limit_) (3 : Int) (3 : Int) b2766 f2767 b2769 f2912 A2772 c2773 f2774 hB2768 h2913 hV2775 (hS.st.part 3 [1, 0, 2, 3, 4] (by kernel_rfl)) (wp_bind hM) (fun x2942 x2943 at_2944 f2945 w hM h2946 hst => s_back hS.ev hst.appF rfl fun hS => ?_))
                replace hS : Ss _ _ _ H [f2767, f2945, f2774, f2787, f2905] F _ _ := hS
                refine st1 hS (mv rfl) rfl fun a w hS => ?_
                refine st1 hS (ex rfl rfl) rfl fun a w hS => ?_
                refine st1 hS (ex rfl rfl) rfl fun a w hS => ?_
                refine st1 hS (asg rfl) rfl fun a w hS => ?_
                refine st1 hS (asg rfl) rfl fun a w hS => ?_
                refine wpList_nil ?_
                refine blk_n (then_n ?_)
                exact hJ2958 _ _ ⟨at_2944, f2945, x2943, (0 : Int), x2942, hS.to [0, 1, 2, 3, 4] (by kernel_rfl) ⟨rfl, rfl, rfl, rfl, rfl, rfl, rfl, trivial⟩, h2946, hM⟩
              · refine wp_region_list ?_
                refine st1 hS (mv rfl) rfl fun a w hS => ?_
                refine s_call hS rfl Tryd.call27 (mortiseref07_state_bits_c hG K (T_mortiseref07_state.mk (T_mortiseref05_Reader.mk s2765.r_.S_ at_2911) s2765.out_ s2765.limit_) (7 : Int) (11 : Int) b2766 f2767 b2769 f2912 A2772 c2773 f2774 hB2768 h2913 hV2775 (hS.st.part 3 [1, 0, 2, 3, 4] (by kernel_rfl)) (wp_bind hM) (fun x2947 x2948 at_2949 f2950 w hM h2951 hst => s_back hS.ev hst.appF rfl fun hS => ?_))
                replace hS : Ss _ _ _ H [f2767, f2950, f2774, f2787, f2905] F _ _ := hS
                refine st1 hS (mv rfl) rfl fun a w hS => ?_
                refine st1 hS (ex rfl rfl) rfl fun a w hS => ?_
                refine st1 hS (ex rfl rfl) rfl fun a w hS => ?_
                refine st1 hS (asg rfl) rfl fun a w hS => ?_
                refine st1 hS (asg rfl) rfl fun a w hS => ?_
                refine wpList_nil ?_
                refine blk_n (then_n ?_)
                exact hJ2958 _ _ ⟨at_2949, f2950, x2948, (0 : Int), x2947, hS.to [0, 1, 2, 3, 4] (by kernel_rfl) ⟨rfl, rfl, rfl, rfl, rfl, rfl, rfl, trivial⟩, h2951, hM⟩
          · intro a w hI
            obtain ⟨at_2952, f2953, e_2955, value2956, times2957, hS, hB2954, hM⟩ := hI
            rw [mortiseref07_state_row.j2] at hM
            refine wp_seq ?_
            refine wp_seq ?_
            refine wp_region_list ?_
            refine st1 hS (mv rfl) rfl fun a w hS => ?_
            refine st1 hS (bin rfl rfl rfl) rfl fun a w hS => ?_
            refine wpList_nil ?_
            refine then_n ?_
            refine s_cond hS rfl hM (fun hb2959 hM => ?_) (fun hb2959 hM => ?_)
            · refine wp_seq ?_
              refine wp_region_list ?_
              refine st1 hS (mv rfl) rfl fun a w hS => ?_
              refine st1 hS (asg rfl) rfl fun a w hS => ?_
              obtain ⟨f2960, hV2961, hS⟩ := hS.nilV 3 (ci .i64) 1
              refine st1 hS (asg rfl) rfl fun a w hS => ?_
              refine wpList_nil ?_
              refine then_n ?_
              refine wp_ret ?_
              refine then_ret (blk_ret (then_ret (blk_ret (then_ret ?_))))
              exact s_ret (rs := [6, 7]) hS rfl rfl (hret none (0) ([] : List Int) f2960 e_2955 at_2952 f2953 w hM hV2961 hB2954 (hS.st.pick [0, 1, 2, 3] (by kernel_rfl)))
            · refine wp_skip ?_
              refine then_n ?_
              refine wp_seq ?_
              refine wp_seq ?_
              refine wp_region_list ?_
              refine st1 hS (mv rfl) rfl fun a w hS => ?_
              refine st1 hS (mv rfl) rfl fun a w hS => ?_
              refine st1 hS (mv rfl) rfl fun a w hS => ?_
              refine st1 hS (lenV rfl Tryd.runUnderlying67) rfl fun a w hS => ?_
              refine st1 hS (bin rfl rfl rfl) rfl fun a w hS => ?_
              refine st1 hS (bin rfl rfl rfl) rfl fun a w hS => ?_
              refine wpList_nil ?_
              refine then_n ?_
              refine s_cond hS rfl hM (fun hb2962 hM => ?_) (fun hb2962 hM => ?_)
              · refine wp_seq ?_
                refine wp_region_list ?_
                refine st1 hS (asg rfl) rfl fun a w hS => ?_
                obtain ⟨f2963, hV2964, hS⟩ := hS.nilV 3 (ci .i64) 1
                refine st1 hS (asg rfl) rfl fun a w hS => ?_
                refine wpList_nil ?_
                refine then_n ?_
                refine wp_ret ?_
                refine then_ret (blk_ret (then_ret (blk_ret (then_ret ?_))))
                exact s_ret (rs := [6, 7]) hS rfl rfl (hret none (0) ([] : List Int) f2963 (3 : Int) at_2952 f2953 w hM hV2964 hB2954 (hS.st.pick [0, 1, 2, 3] (by kernel_rfl)))
              · refine wp_skip ?_
                refine then_n ?_
                refine wp_seq ?_
                refine wp_region_list ?_
                refine st1 hS (asg rfl) rfl fun a w hS => ?_
                refine wpList_nil ?_
                refine then_n ?_
                refine wp_block ?_
                refine s_loopJ (fun k2991 a w => ∃ (A2985 : Option Addr) (c2986 : Nat) (out2987 : (List Int)) (f2988 : Frag) (i2990 : Int), Ss 87 [] [(0, ptr b2766 0), (1, .int .i64 n_2776), (5, ptr b2786 0), (8, .slice A2985 out2987.length c2986), (11, .int .i64 value2956), (12, .int .i64 times2957), (13, .int .i64 i2990)] H [f2767, f2953, f2774, f2787, f2988] F a w ∧ (Vec 3 (ci .i64) 1 A2985 out2987 c2986 f2988) ∧ (mortiseref07_state_row.l3 K (mortiseref07_state_row.l1 K s2765 n_2776 c_2777 k2907) at_2952 value2956 times2957 k2991 out2987 i2990).wp kr kp) K ?_ ?_ ?_
                · exact ⟨A2902, c2903, out2904, f2905, (0 : Int), hS.to [0, 1, 2, 3, 4] (by kernel_rfl) ⟨rfl, rfl, rfl, rfl, rfl, rfl, rfl, trivial⟩, hV2906, hM⟩
                · intro a w hI; obtain ⟨_, _, _, _, _, _, _, hM⟩ := hI; exact hM
                · intro k2991 a w hI J3004 hJ3004
                  obtain ⟨A2985, c2986, out2987, f2988, i2990, hS, hV2989, hM⟩ := hI
                  rw [mortiseref07_state_row.l3] at hM
                  refine wp_seq ?_
                  refine wp_seq ?_
                  refine wp_region_list ?_
                  refine st1 hS (mv rfl) rfl fun a w hS => ?_
                  refine st1 hS (mv rfl) rfl fun a w hS => ?_
                  refine st1 hS (bin rfl rfl rfl) rfl fun a w hS => ?_
                  refine wpList_nil ?_
                  refine then_n ?_
                  refine s_cond hS rfl hM (fun hb2992 hM => ?_) (fun hb2992 hM => ?_)
                  · refine wp_skip ?_
                    refine then_n ?_
                    refine wp_seq ?_
                    refine wp_block ?_
                    refine wp_region_list ?_
                    refine st1 hS (mv rfl) rfl fun a w hS => ?_
                    refine st1 hS (mv rfl) rfl fun a w hS => ?_
                    refine bsl (g := (ci .i64)) ([value2956] : List Int) [.int .i64 value2956] hS Tryd.runUnderlying67 Tryd.sizeOf3 X.el3 rfl rfl rfl (by simp [Value.cells]) rfl rfl rfl rfl rfl fun w A2993 c2994 f2995 hV2996 hS => ?_
                    obtain ⟨hk2997, hM⟩ := wp_chk hM
                    refine apV (ys := ([value2956] : List Int)) 5 hS rfl rfl hV2989 rfl (hV2996.rd (i := 0) rfl) Tryd.runUnderlying67 Tryd.runUnderlying67 X.el3 (fun _ => rfl) rfl one_t3 hk2997 rfl fun zs3002 w A2998 c2999 f3000 hz hV3001 hS => ?_
                    have hM := lt_to hz hM; clear hz
                    refine st1 hS (asg rfl) rfl fun a w hS => ?_
                    refine wpList_nil ?_
                    refine blk_n (then_n ?_)
                    refine wp_region_list ?_
                    refine st1 hS (mv rfl) rfl fun a w hS => ?_
                    refine st1 hS (bin rfl rfl rfl) rfl fun a w hS => ?_
                    refine st1x (v := Value.int .i64) hS (asg rfl) rfl fun i3003 a w hz hS => ?_
                    have hM := lt_to hz hM; clear hz
                    refine wpList_nil ?_
                    refine then_n ?_
                    exact hJ3004 _ _ ⟨A2998, c2999, zs3002, f3000, i3003, hS.to [1, 2, 3, 4, 5] (by kernel_rfl) ⟨rfl, rfl, rfl, rfl, rfl, rfl, rfl, trivial⟩, hV3001, hM⟩
                  · refine wp_exit ?_
                    refine then_ex (then_ex (blk_same (blk_n (then_n ?_))))
                    exact hJ3005 _ _ ⟨at_2952, f2953, A2985, c2986, out2987, f2988, hS.to [0, 1, 2, 3, 4] (by kernel_rfl) ⟨rfl, rfl, rfl, rfl, trivial⟩, hB2954, hV2989, hM⟩
    · refine wp_exit ?_
      refine then_ex (then_ex (blk_same (then_n ?_)))
      refine wp_seq ?_
      refine wp_region_list ?_
      refine st1 hS (mv rfl) rfl fun a w hS => ?_
      refine st1 hS (asg rfl) rfl fun a w hS => ?_
      refine st1 hS (asg rfl) rfl fun a w hS => ?_
      refine wpList_nil ?_
      refine then_n ?_
      refine wp_ret ?_
      exact s_ret (rs := [6, 7]) hS rfl rfl (hret A2902 c2903 out2904 f2905 (0 : Int) at_2899 f2900 w hM hV2906 hB2901 (hS.st.pick [4, 0, 1, 2] (by kernel_rfl)))

theorem mortiseref07_state_dynamic_c {H : Imm} {F : List Frag} {w : World} {R : Ending → World → Prop} {kr : (Int × Int × (List Int)) → Prop} {kp : Value → Prop} (hG : Gl H) (K : Nat) (s2536 : T_mortiseref07_state) (b2537 : Nat) (f2538 : Frag) (b2540 : Nat) (f2541 : Frag) (A2543 : Option Addr) (c2544 : Nat) (f2545 : Frag) (hB2539 : Blk f2538 b2537 ([ptr b2540 0, .slice A2543 s2536.out_.length c2544, .int .i64 s2536.limit_]) 51) (hB2542 : Blk f2541 b2540 ([str s2536.r_.S_, .int .i64 s2536.r_.At_]) 49) (hV2546 : Vec 5 (ci .u8) 1 A2543 s2536.out_ c2544 f2545)
    (hS : St w H [f2538, f2541, f2545] F) (hm : (mortiseref07_state_dynamic.m K s2536).wp kr kp)
    (hret : ∀ (x3082 : Int) (at_3083 : Int) (f3084 : Frag) (A3086 : Option Addr) (c3087 : Nat) (out3088 : (List Int)) (f3089 : Frag) (f3091 : Frag) (w : World), kr (x3082, at_3083, out3088) → (Blk f3084 b2540 ([str s2536.r_.S_, .int .i64 at_3083]) 49) → (Vec 5 (ci .u8) 1 A3086 out3088 c3087 f3089) → (Blk f3091 b2537 ([ptr b2540 0, .slice A3086 out3088.length c3087, .int .i64 s2536.limit_]) 51) → St w H [f3091, f3084, f3089] F → R (.returned (.int .i64 x3082)) w) :
    Calls Tryd.prog 32 ⟨[ptr b2537 0]⟩ w R := by
  refine enter Tryd.func32 rfl Tryd.ntmps32 rfl hS fun a w hS => ?_
  have hM := hm; clear hm
  rw [mortiseref07_state_dynamic.m] at hM
  refine wp_seq ?_
  refine wp_region_list ?_
  refine st1 hS (asg rfl) rfl fun a w hS => ?_
  refine wpList_nil ?_
  refine then_n ?_
  refine wp_seq ?_
  refine wp_region_list ?_
  refine st1 hS (mv rfl) rfl fun a w hS => ?_
  refine s_call hS rfl Tryd.call45 (mortiseref07_state_head_c hG K s2536 b2537 f2538 b2540 f2541 A2543 c2544 f2545 hB2539 hB2542 hV2546 (hS.st.part 3 [0, 1, 2] (by kernel_rfl)) (wp_bind hM) (fun x2739 x2740 A2741 c2742 l_2743 f2744 A2745 c2746 codes2747 f2748 x2749 at_2750 f2751 w hM h2752 h2753 h2754 hst => s_back hS.ev hst.appF rfl fun hS => ?_))
  replace hS : Ss _ _ _ H [f2744, f2748, f2538, f2751, f2545] F _ _ := hS
  refine st1 hS (mv rfl) rfl fun a w hS => ?_
  refine st1 hS (ex rfl rfl) rfl fun a w hS => ?_
  refine st1 hS (ex rfl rfl) rfl fun a w hS => ?_
  refine st1 hS (ex rfl rfl) rfl fun a w hS => ?_
  refine st1 hS (ex rfl rfl) rfl fun a w hS => ?_
  refine alc ([.slice none 0 0, .slice none 0 0]) hS Tryd.zeroValue71 rfl rfl fun w b2755 f2756 hB2757 hS => ?_
  obtain ⟨f2758, hV2759, hS⟩ := hS.nilV 3 (ci .i64) 1
  obtain ⟨f2760, hV2761, hS⟩ := hS.nilV 3 (ci .i64) 1
  refine st1 hS (asg rfl) rfl fun a w hS => ?_
  refine st1 hS (asg rfl) rfl fun a w hS => ?_
  refine stB 2 ([.slice A2741 l_2743.length c2742, .slice A2745 codes2747.length c2746]) ([.slice A2741 l_2743.length c2742, .slice A2745 codes2747.length c2746]) hS rfl rfl hB2757 rfl rfl Tryd.sizeOf71 (by simp [Value.oneCell']) (Nat.le_of_ble_eq_true rfl) rfl fun w f2762 hB2763 hS => ?_
  refine st1 hS (asg rfl) rfl fun a w hS => ?_
  refine wpList_nil ?_
  refine then_n ?_
  refine wp_seq ?_
  refine wp_seq ?_
  refine wp_region_list ?_
  refine st1 hS (mv rfl) rfl fun a w hS => ?_
  refine st1 hS (bin rfl rfl rfl) rfl fun a w hS => ?_
  refine wpList_nil ?_
  refine then_n ?_
  refine s_cond hS rfl hM (fun hb2764 hM => ?_) (fun hb2764 hM => ?_)
  · refine wp_seq ?_
    refine wp_region_list ?_
    refine st1 hS (mv rfl) rfl fun a w hS => ?_
    refine st1 hS (asg rfl) rfl fun a w hS => ?_
    refine wpList_nil ?_
    refine then_n ?_
    refine wp_ret ?_
    refine then_ret ?_
    exact s_ret (rs := [2]) hS rfl rfl (hret x2749 at_2750 f2751 A2543 c2544 s2536.out_ f2545 f2538 w hM h2754 hV2546 hB2539 (hS.st.pick [5, 6, 7] (by kernel_rfl)))
  · refine wp_skip ?_
    refine then_n ?_
    refine wp_seq ?_
    refine wp_region_list ?_
    refine st1 hS (mv rfl) rfl fun a w hS => ?_
    refine st1 hS (mv rfl) rfl fun a w hS => ?_
    refine st1 hS (mv rfl) rfl fun a w hS => ?_
    refine st1 hS (bin rfl rfl rfl) rfl fun a w hS => ?_
    refine st1 hS (ldbA 2 rfl hB2763 rfl ([.slice A2741 l_2743.length c2742, .slice A2745 codes2747.length c2746]) rfl rfl Tryd.isAgg71 Tryd.sizeOf71) rfl fun a w hS => ?_
    refine s_call hS rfl Tryd.call46 (mortiseref07_state_row_c hG K (T_mortiseref07_state.mk (T_mortiseref05_Reader.mk s2536.r_.S_ at_2750) s2536.out_ s2536.limit_) (w64 (x2739 + x2740)) (T_mortiseref07_code.mk l_2743 codes2747) b2537 f2538 b2540 f2751 A2543 c2544 f2545 A2741 c2742 A2745 c2746 hB2539 h2754 hV2546 (h2752.rdF (i := 3) rfl) (h2752.cap (fun _ => rfl) rfl) (h2753.rdF (i := 4) rfl) (h2753.cap (fun _ => rfl) rfl) (hS.st.part 3 [5, 6, 7, 0, 1, 2, 3, 4] (by kernel_rfl)) (wp_bind hM) (fun A3015 c3016 x3017 f3018 x3019 at_3020 f3021 w hM h3022 h3023 hst => s_back hS.ev hst.appF rfl fun hS => ?_))
    replace hS : Ss _ _ _ H [f3018, f2538, f3021, f2545, f2760, f2758, f2762, f2744, f2748] F _ _ := hS
    refine st1 hS (mv rfl) rfl fun a w hS => ?_
    refine st1 hS (ex rfl rfl) rfl fun a w hS => ?_
    refine st1 hS (ex rfl rfl) rfl fun a w hS => ?_
    refine st1 hS (asg rfl) rfl fun a w hS => ?_
    refine st1 hS (asg rfl) rfl fun a w hS => ?_
    refine wpList_nil ?_
    refine then_n ?_
    refine wp_seq ?_
    refine wp_seq ?_
    refine wp_region_list ?_
    refine st1 hS (mv rfl) rfl fun a w hS => ?_
    refine st1 hS (bin rfl rfl rfl) rfl fun a w hS => ?_
    refine wpList_nil ?_
    refine then_n ?_
    refine s_cond hS rfl hM (fun hb3024 hM => ?_) (fun hb3024 hM => ?_)
    · refine wp_seq ?_
      refine wp_region_list ?_
      refine st1 hS (mv rfl) rfl fun a w hS => ?_
      refine st1 hS (asg rfl) rfl fun a w hS => ?_
      refine wpList_nil ?_
      refine then_n ?_
      refine wp_ret ?_
      refine then_ret ?_
      exact s_ret (rs := [2]) hS rfl rfl (hret x3019 at_3020 f3021 A2543 c2544 s2536.out_ f2545 f2538 w hM h3023 hV2546 hB2539 (hS.st.pick [1, 2, 3] (by kernel_rfl)))
    · refine wp_skip ?_
      refine then_n ?_
      refine wp_seq ?_
      refine wp_region_list ?_
      refine st1 hS (mv rfl) rfl fun a w hS => ?_
      refine st1 hS (mv rfl) rfl fun a w hS => ?_
      obtain ⟨hk3025, hM⟩ := wp_chk hM
      refine slVx (g := (ci .i64)) hS rfl Tryd.runUnderlying67 Tryd.sizeOf3 lo0 (hiS rfl) (fun _ => rfl) (h3022.cap (fun _ => rfl) rfl) hk3025 rfl fun zs3026 A3027 c3028 a w hz hd3029 hc3030 hS => ?_
      have hM := lt_to hz hM; clear hz
      refine s_call hS rfl Tryd.call30 (mortiseref07_coded_c hG K zs3026 A3027 c3028 (hd3029 _ _ _ (h3022.rdF (i := 0) rfl)) hc3030 (hS.st.part 0 [0, 1, 2, 3, 4, 5, 6, 7, 8] (by kernel_rfl)) (wp_bind hM) (fun A3031 c3032 codes3033 f3034 x3035 w hM h3036 hst => s_back hS.ev hst.appF rfl fun hS => ?_))
      replace hS : Ss _ _ _ H [f3034, f3018, f2538, f3021, f2545, f2760, f2758, f2762, f2744, f2748] F _ _ := hS
      refine st1 hS (mv rfl) rfl fun a w hS => ?_
      refine st1 hS (ex rfl rfl) rfl fun a w hS => ?_
      refine st1 hS (ex rfl rfl) rfl fun a w hS => ?_
      refine alc ([.slice none 0 0, .slice none 0 0]) hS Tryd.zeroValue71 rfl rfl fun w b3037 f3038 hB3039 hS => ?_
      obtain ⟨f3040, hV3041, hS⟩ := hS.nilV 3 (ci .i64) 1
      obtain ⟨f3042, hV3043, hS⟩ := hS.nilV 3 (ci .i64) 1
      refine stB 2 ([.slice A3027 zs3026.length c3028, .slice A3031 codes3033.length c3032]) ([.slice A3027 zs3026.length c3028, .slice A3031 codes3033.length c3032]) hS rfl rfl hB3039 rfl rfl Tryd.sizeOf71 (by simp [Value.oneCell']) (Nat.le_of_ble_eq_true rfl) rfl fun w f3044 hB3045 hS => ?_
      refine st1 hS (asg rfl) rfl fun a w hS => ?_
      refine wpList_nil ?_
      refine then_n ?_
      refine wp_seq ?_
      refine wp_region_list ?_
      refine st1 hS (mv rfl) rfl fun a w hS => ?_
      refine st1 hS (mv rfl) rfl fun a w hS => ?_
      obtain ⟨hk3046, hM⟩ := wp_chk hM
      refine slVx (g := (ci .i64)) hS rfl Tryd.runUnderlying67 Tryd.sizeOf3 (loS rfl) hi0 (fun _ => rfl) (h3022.cap (fun _ => rfl) rfl) hk3046 rfl fun zs3047 A3048 c3049 a w hz hd3050 hc3051 hS => ?_
      have hM := lt_to hz hM; clear hz
      refine s_call hS rfl Tryd.call30 (mortiseref07_coded_c hG K zs3047 A3048 c3049 (hd3050 _ _ _ (h3022.rdF (i := 4) rfl)) hc3051 (hS.st.part 0 [0, 1, 2, 3, 4, 5, 6, 7, 8, 9, 10, 11, 12] (by kernel_rfl)) (wp_bind hM) (fun A3052 c3053 codes3054 f3055 x3056 w hM h3057 hst => s_back hS.ev hst.appF rfl fun hS => ?_))
      replace hS : Ss _ _ _ H [f3055, f3042, f3040, f3044, f3034, f3018, f2538, f3021, f2545, f2760, f2758, f2762, f2744, f2748] F _ _ := hS
      refine st1 hS (mv rfl) rfl fun a w hS => ?_
      refine st1 hS (ex rfl rfl) rfl fun a w hS => ?_
      refine st1 hS (ex rfl rfl) rfl fun a w hS => ?_
      refine alc ([.slice none 0 0, .slice none 0 0]) hS Tryd.zeroValue71 rfl rfl fun w b3058 f3059 hB3060 hS => ?_
      obtain ⟨f3061, hV3062, hS⟩ := hS.nilV 3 (ci .i64) 1
      obtain ⟨f3063, hV3064, hS⟩ := hS.nilV 3 (ci .i64) 1
      refine stB 2 ([.slice A3048 zs3047.length c3049, .slice A3052 codes3054.length c3053]) ([.slice A3048 zs3047.length c3049, .slice A3052 codes3054.length c3053]) hS rfl rfl hB3060 rfl rfl Tryd.sizeOf71 (by simp [Value.oneCell']) (Nat.le_of_ble_eq_true rfl) rfl fun w f3065 hB3066 hS => ?_
      refine st1 hS (asg rfl) rfl fun a w hS => ?_
      refine wpList_nil ?_
      refine then_n ?_
      refine wp_seq ?_
      refine wp_seq ?_
      refine wp_region_list ?_
      refine st1 hS (mv rfl) rfl fun a w hS => ?_
      refine st1 hS (un rfl rfl) rfl fun a w hS => ?_
      refine st1 hS (mv rfl) rfl fun a w hS => ?_
      refine g_op 2 false 51 (b := (!x3035)) (r := (!x3056)) hS rfl rfl rfl rfl rfl rfl rfl (fun hb a w hS K hK => ?_) rfl fun a w hS => ?_
      · refine st1g hS rfl rfl rfl hb (mv rfl) rfl fun a w hS => ?_
        refine st1g hS rfl rfl rfl hb (un rfl rfl) rfl fun a w hS => ?_
        exact wpList_nil (hK _ _ (hS.up 2 rfl rfl))
      refine st1 hS (mv rfl) rfl fun a w hS => ?_
      obtain ⟨hk3069, hM⟩ := wp_chk hM
      refine g_op 4 false 55 (b := ((!x3035) || (!x3056))) (r := ((rd x3017 (256 : Int)) == (0 : Int))) hS rfl rfl rfl rfl rfl rfl rfl (fun hb a w hS K hK => ?_) rfl fun a w hS => ?_
      · refine st1g hS rfl rfl rfl hb (mv rfl) rfl fun a w hS => ?_
        have hk3068 := imp_of hk3069 hb
        refine st1g hS rfl rfl rfl hb (ixV rfl rfl Tryd.runUnderlying67 Tryd.sizeOf3 (h3022.rd (i := 8) rfl) (fun _ => rfl) rfl hk3068) rfl fun a w hS => ?_
        refine st1g hS rfl rfl rfl hb (ldV0 rfl (h3022.rd (i := 8) rfl) (fun _ => rfl) hk3068 rfl Tryd.isAgg3) rfl fun a w hS => ?_
        refine st1g hS rfl rfl rfl hb (bin rfl rfl rfl) rfl fun a w hS => ?_
        exact wpList_nil (hK _ _ (hS.up 4 rfl rfl))
      refine wpList_nil ?_
      refine then_n ?_
      refine s_cond hS rfl hM (fun hb3070 hM => ?_) (fun hb3070 hM => ?_)
      · refine wp_seq ?_
        refine wp_region_list ?_
        refine st1 hS (asg rfl) rfl fun a w hS => ?_
        refine wpList_nil ?_
        refine then_n ?_
        refine wp_ret ?_
        refine then_ret ?_
        exact s_ret (rs := [2]) hS rfl rfl (hret (3 : Int) at_3020 f3021 A2543 c2544 s2536.out_ f2545 f2538 w hM h3023 hV2546 hB2539 (hS.st.pick [9, 10, 11] (by kernel_rfl)))
      · refine wp_skip ?_
        refine then_n ?_
        refine wp_seq ?_
        refine wp_region_list ?_
        refine st1 hS (mv rfl) rfl fun a w hS => ?_
        refine st1 hS (ldbA 6 rfl hB3045 rfl ([.slice A3027 zs3026.length c3028, .slice A3031 codes3033.length c3032]) rfl rfl Tryd.isAgg71 Tryd.sizeOf71) rfl fun a w hS => ?_
        refine st1 hS (ldbA 2 rfl hB3066 rfl ([.slice A3048 zs3047.length c3049, .slice A3052 codes3054.length c3053]) rfl rfl Tryd.isAgg71 Tryd.sizeOf71) rfl fun a w hS => ?_
        refine s_call hS rfl Tryd.call31 (mortiseref07_state_symbols_c hG K (T_mortiseref07_state.mk (T_mortiseref05_Reader.mk s2536.r_.S_ at_3020) s2536.out_ s2536.limit_) (T_mortiseref07_code.mk zs3026 codes3033) (T_mortiseref07_code.mk zs3047 codes3054) b2537 f2538 b2540 f3021 A2543 c2544 f2545 A3027 c3028 A3031 c3032 A3048 c3049 A3052 c3053 hB2539 h3023 hV2546 (hd3029 _ _ _ (h3022.rdF (i := 8) rfl)) hc3030 (h3036.rdF (i := 7) rfl) (h3036.cap (fun _ => rfl) rfl) (hd3050 _ _ _ (h3022.rdF (i := 8) rfl)) hc3051 (h3057.rdF (i := 3) rfl) (h3057.cap (fun _ => rfl) rfl) (hS.st.part 3 [9, 10, 11, 0, 1, 2, 3, 4, 5, 6, 7, 8, 12, 13, 14, 15, 16] (by kernel_rfl)) (wp_bind hM) (fun x3071 at_3072 f3073 A3074 c3075 out3076 f3077 f3078 w hM h3079 h3080 h3081 hst => s_back hS.ev hst.appF rfl fun hS => ?_))
        replace hS : Ss _ _ _ H [f3078, f3073, f3077, f3063, f3061, f3065, f3055, f3042, f3040, f3044, f3034, f3018, f2760, f2758, f2762, f2744, f2748] F _ _ := hS
        refine st1 hS (asg rfl) rfl fun a w hS => ?_
        refine wpList_nil ?_
        refine then_n ?_
        refine wp_ret ?_
        exact s_ret (rs := [2]) hS rfl rfl (hret x3071 at_3072 f3073 A3074 c3075 out3076 f3077 f3078 w hM h3079 h3080 h3081 (hS.st.pick [0, 1, 2] (by kernel_rfl)))

theorem mortiseref07_state_block_c {H : Imm} {F : List Frag} {w : World} {R : Ending → World → Prop} {kr : (Bool × Int × Int × (List Int)) → Prop} {kp : Value → Prop} (hG : Gl H) (K : Nat) (s1620 : T_mortiseref07_state) (b1621 : Nat) (f1622 : Frag) (b1624 : Nat) (f1625 : Frag) (A1627 : Option Addr) (c1628 : Nat) (f1629 : Frag) (hB1623 : Blk f1622 b1621 ([ptr b1624 0, .slice A1627 s1620.out_.length c1628, .int .i64 s1620.limit_]) 51) (hB1626 : Blk f1625 b1624 ([str s1620.r_.S_, .int .i64 s1620.r_.At_]) 49) (hV1630 : Vec 5 (ci .u8) 1 A1627 s1620.out_ c1628 f1629)
    (hS : St w H [f1622, f1625, f1629] F) (hm : (mortiseref07_state_block.m K s1620).wp kr kp)
    (hret : ∀ (x3105 : Bool) (x3106 : Int) (at_3107 : Int) (f3108 : Frag) (A3110 : Option Addr) (c3111 : Nat) (out3112 : (List Int)) (f3113 : Frag) (f3115 : Frag) (w : World), kr (x3105, x3106, at_3107, out3112) → (Blk f3108 b1624 ([str s1620.r_.S_, .int .i64 at_3107]) 49) → (Vec 5 (ci .u8) 1 A3110 out3112 c3111 f3113) → (Blk f3115 b1621 ([ptr b1624 0, .slice A3110 out3112.length c3111, .int .i64 s1620.limit_]) 51) → St w H [f3115, f3108, f3113] F → R (.returned (.tuple ⟨[.bool x3105, .int .i64 x3106]⟩)) w) :
    Calls Tryd.prog 20 ⟨[ptr b1621 0]⟩ w R := by
  refine enter Tryd.func20 rfl Tryd.ntmps20 rfl hS fun a w hS => ?_
  have hM := hm; clear hm
  rw [mortiseref07_state_block.m] at hM
  refine wp_seq ?_
  refine wp_region_list ?_
  refine st1 hS (asg rfl) rfl fun a w hS => ?_
  refine st1 hS (asg rfl) rfl fun a w hS => ?_
  refine wpList_nil ?_
  refine then_n ?_
  refine wp_seq ?_
  refine wp_region_list ?_
  refine st1 hS (mv rfl) rfl fun a w hS => ?_
  refine s_call hS rfl Tryd.call27 (mortiseref07_state_bits_c hG K s1620 (1 : Int) (0 : Int) b1621 f1622 b1624 f1625 A1627 c1628 f1629 hB1623 hB1626 hV1630 (hS.st.part 3 [0, 1, 2] (by kernel_rfl)) (wp_bind hM) (fun x1683 x1684 at_1685 f1686 w hM h1687 hst => s_back hS.ev hst.appF rfl fun hS => ?_))
  replace hS : Ss _ _ _ H [f1622, f1686, f1629] F _ _ := hS
  refine st1 hS (mv rfl) rfl fun a w hS => ?_
  refine st1 hS (ex rfl rfl) rfl fun a w hS => ?_
  refine st1 hS (ex rfl rfl) rfl fun a w hS => ?_
  refine st1 hS (asg rfl) rfl fun a w hS => ?_
  refine st1 hS (asg rfl) rfl fun a w hS => ?_
  refine wpList_nil ?_
  refine then_n ?_
  refine wp_seq ?_
  refine wp_seq ?_
  refine wp_region_list ?_
  refine st1 hS (mv rfl) rfl fun a w hS => ?_
  refine st1 hS (bin rfl rfl rfl) rfl fun a w hS => ?_
  refine wpList_nil ?_
  refine then_n ?_
  refine s_cond hS rfl hM (fun hb1688 hM => ?_) (fun hb1688 hM => ?_)
  · refine wp_seq ?_
    refine wp_region_list ?_
    refine st1 hS (mv rfl) rfl fun a w hS => ?_
    refine st1 hS (asg rfl) rfl fun a w hS => ?_
    refine st1 hS (asg rfl) rfl fun a w hS => ?_
    refine wpList_nil ?_
    refine then_n ?_
    refine wp_ret ?_
    refine then_ret ?_
    exact s_ret (rs := [2, 3]) hS rfl rfl (hret false x1684 at_1685 f1686 A1627 c1628 s1620.out_ f1629 f1622 w hM h1687 hV1630 hB1623 (hS.st.pick [0, 1, 2] (by kernel_rfl)))
  · refine wp_skip ?_
    refine then_n ?_
    refine wp_seq ?_
    refine wp_region_list ?_
    refine st1 hS (mv rfl) rfl fun a w hS => ?_
    refine s_call hS rfl Tryd.call27 (mortiseref07_state_bits_c hG K (T_mortiseref07_state.mk (T_mortiseref05_Reader.mk s1620.r_.S_ at_1685) s1620.out_ s1620.limit_) (2 : Int) (0 : Int) b1621 f1622 b1624 f1686 A1627 c1628 f1629 hB1623 h1687 hV1630 (hS.st.part 3 [0, 1, 2] (by kernel_rfl)) (wp_bind hM) (fun x1689 x1690 at_1691 f1692 w hM h1693 hst => s_back hS.ev hst.appF rfl fun hS => ?_))
    replace hS : Ss _ _ _ H [f1622, f1692, f1629] F _ _ := hS
    refine st1 hS (mv rfl) rfl fun a w hS => ?_
    refine st1 hS (ex rfl rfl) rfl fun a w hS => ?_
    refine st1 hS (ex rfl rfl) rfl fun a w hS => ?_
    refine st1 hS (asg rfl) rfl fun a w hS => ?_
    refine st1 hS (asg rfl) rfl fun a w hS => ?_
    refine wpList_nil ?_
    refine then_n ?_
    refine wp_seq ?_
    refine wp_seq ?_
    refine wp_region_list ?_
    refine st1 hS (mv rfl) rfl fun a w hS => ?_
    refine st1 hS (bin rfl rfl rfl) rfl fun a w hS => ?_
    refine wpList_nil ?_
    refine then_n ?_
    refine s_cond hS rfl hM (fun hb1694 hM => ?_) (fun hb1694 hM => ?_)
    · refine wp_seq ?_
      refine wp_region_list ?_
      refine st1 hS (mv rfl) rfl fun a w hS => ?_
      refine st1 hS (asg rfl) rfl fun a w hS => ?_
      refine st1 hS (asg rfl) rfl fun a w hS => ?_
      refine wpList_nil ?_
      refine then_n ?_
      refine wp_ret ?_
      refine then_ret ?_
      exact s_ret (rs := [2, 3]) hS rfl rfl (hret false x1690 at_1691 f1692 A1627 c1628 s1620.out_ f1629 f1622 w hM h1693 hV1630 hB1623 (hS.st.pick [0, 1, 2] (by kernel_rfl)))
    · refine wp_skip ?_
      refine then_n ?_
      refine wp_seq ?_
      refine wp_seq ?_
      refine wp_region_list ?_
      refine st1 hS (mv rfl) rfl fun a w hS => ?_
      refine wpList_nil ?_
      refine then_n ?_
      refine wp_block ?_
      refine wp_seq ?_
      refine wp_region_list ?_
      refine st1 hS (bin rfl rfl rfl) rfl fun a w hS => ?_
      refine st1x (v := Value.bool) hS (asg rfl) rfl fun v1695 a w hz hS => ?_
      have hM := lt_to hz hM; clear hz
      refine wpList_nil ?_
      refine then_n ?_
      refine s_cond hS rfl hM (fun hb1696 hM => ?_) (fun hb1696 hM => ?_)
      · refine wp_seq ?_
        refine wp_region_list ?_
        refine st1 hS (mv rfl) rfl fun a w hS => ?_
        refine st1 hS (bin rfl rfl rfl) rfl fun a w hS => ?_
        refine st1 hS (mv rfl) rfl fun a w hS => ?_
        refine s_call hS rfl Tryd.call28 (mortiseref07_state_stored_c hG K (T_mortiseref07_state.mk (T_mortiseref05_Reader.mk s1620.r_.S_ at_1691) s1620.out_ s1620.limit_) b1621 f1622 b1624 f1692 A1627 c1628 f1629 hB1623 h1693 hV1630 (hS.st.part 3 [0, 1, 2] (by kernel_rfl)) (wp_bind hM) (fun x1793 at_1794 f1795 A1796 c1797 out1798 f1799 f1800 w hM h1801 h1802 h1803 hst => s_back hS.ev hst.appF rfl fun hS => ?_))
        replace hS : Ss _ _ _ H [f1800, f1795, f1799] F _ _ := hS
        refine st1x (v := Value.bool) hS (asg rfl) rfl fun v1804 a w hz hS => ?_
        have hM := lt_to hz hM; clear hz
        refine st1 hS (asg rfl) rfl fun a w hS => ?_
        refine wpList_nil ?_
        refine then_n ?_
        refine wp_ret ?_
        refine blk_ret (then_ret ?_)
        exact s_ret (rs := [2, 3]) hS rfl rfl (hret v1804 x1793 at_1794 f1795 A1796 c1797 out1798 f1799 f1800 w hM h1801 h1802 h1803 (hS.st.pick [0, 1, 2] (by kernel_rfl)))
      · refine wp_seq ?_
        refine wp_region_list ?_
        refine st1 hS (bin rfl rfl rfl) rfl fun a w hS => ?_
        refine st1x (v := Value.bool) hS (asg rfl) rfl fun v1805 a w hz hS => ?_
        have hM := lt_to hz hM; clear hz
        refine wpList_nil ?_
        refine then_n ?_
        refine s_cond hS rfl hM (fun hb1806 hM => ?_) (fun hb1806 hM => ?_)
        · refine wp_seq ?_
          refine wp_region_list ?_
          refine s_call hS rfl Tryd.call29 (mortiseref07_Fixed_c hG K  (hS.st.part 0 [0, 1, 2] (by kernel_rfl)) (wp_bind hM) (fun A1921 c1922 x1923 f1924 A1925 c1926 x1927 f1928 w hM h1929 h1930 hst => s_back hS.ev hst.appF rfl fun hS => ?_))
          replace hS : Ss _ _ _ H [f1924, f1928, f1622, f1692, f1629] F _ _ := hS
          refine st1 hS (mv rfl) rfl fun a w hS => ?_
          refine st1 hS (ex rfl rfl) rfl fun a w hS => ?_
          refine st1 hS (ex rfl rfl) rfl fun a w hS => ?_
          refine st1 hS (asg rfl) rfl fun a w hS => ?_
          refine st1 hS (asg rfl) rfl fun a w hS => ?_
          refine wpList_nil ?_
          refine then_n ?_
          refine wp_seq ?_
          refine wp_region_list ?_
          refine st1 hS (mv rfl) rfl fun a w hS => ?_
          refine s_call hS rfl Tryd.call30 (mortiseref07_coded_c hG K x1923 A1921 c1922 (h1929.rdF (i := 0) rfl) (h1929.cap (fun _ => rfl) rfl) (hS.st.part 0 [0, 1, 2, 3, 4] (by kernel_rfl)) (wp_bind hM) (fun A2112 c2113 codes2114 f2115 x2116 w hM h2117 hst => s_back hS.ev hst.appF rfl fun hS => ?_))
          replace hS : Ss _ _ _ H [f2115, f1924, f1928, f1622, f1692, f1629] F _ _ := hS
          refine st1 hS (mv rfl) rfl fun a w hS => ?_
          refine st1 hS (ex rfl rfl) rfl fun a w hS => ?_
          refine st1 hS (ex rfl rfl) rfl fun a w hS => ?_
          refine alc ([.slice none 0 0, .slice none 0 0]) hS Tryd.zeroValue71 rfl rfl fun w b2118 f2119 hB2120 hS => ?_
          obtain ⟨f2121, hV2122, hS⟩ := hS.nilV 3 (ci .i64) 1
          obtain ⟨f2123, hV2124, hS⟩ := hS.nilV 3 (ci .i64) 1
          refine stB 2 ([.slice A1921 x1923.length c1922, .slice A2112 codes2114.length c2113]) ([.slice A1921 x1923.length c1922, .slice A2112 codes2114.length c2113]) hS rfl rfl hB2120 rfl rfl Tryd.sizeOf71 (by simp [Value.oneCell']) (Nat.le_of_ble_eq_true rfl) rfl fun w f2125 hB2126 hS => ?_
          refine st1 hS (asg rfl) rfl fun a w hS => ?_
          refine wpList_nil ?_
          refine then_n ?_
          refine wp_seq ?_
          refine wp_region_list ?_
          refine st1 hS (mv rfl) rfl fun a w hS => ?_
          refine s_call hS rfl Tryd.call30 (mortiseref07_coded_c hG K x1927 A1925 c1926 (h1930.rdF (i := 5) rfl) (h1930.cap (fun _ => rfl) rfl) (hS.st.part 0 [0, 1, 2, 3, 4, 5, 6, 7, 8] (by kernel_rfl)) (wp_bind hM) (fun A2127 c2128 codes2129 f2130 x2131 w hM h2132 hst => s_back hS.ev hst.appF rfl fun hS => ?_))
          replace hS : Ss _ _ _ H [f2130, f2123, f2121, f2125, f2115, f1924, f1928, f1622, f1692, f1629] F _ _ := hS
          refine st1 hS (mv rfl) rfl fun a w hS => ?_
          refine st1 hS (ex rfl rfl) rfl fun a w hS => ?_
          refine st1 hS (ex rfl rfl) rfl fun a w hS => ?_
          refine alc ([.slice none 0 0, .slice none 0 0]) hS Tryd.zeroValue71 rfl rfl fun w b2133 f2134 hB2135 hS => ?_
          obtain ⟨f2136, hV2137, hS⟩ := hS.nilV 3 (ci .i64) 1
          obtain ⟨f2138, hV2139, hS⟩ := hS.nilV 3 (ci .i64) 1
          refine stB 2 ([.slice A1925 x1927.length c1926, .slice A2127 codes2129.length c2128]) ([.slice A1925 x1927.length c1926, .slice A2127 codes2129.length c2128]) hS rfl rfl hB2135 rfl rfl Tryd.sizeOf71 (by simp [Value.oneCell']) (Nat.le_of_ble_eq_true rfl) rfl fun w f2140 hB2141 hS => ?_
          refine st1 hS (asg rfl) rfl fun a w hS => ?_
          refine wpList_nil ?_
          refine then_n ?_
          refine wp_seq ?_
          refine wp_region_list ?_
          refine st1 hS (mv rfl) rfl fun a w hS => ?_
          refine st1 hS (bin rfl rfl rfl) rfl fun a w hS => ?_
          refine st1 hS (mv rfl) rfl fun a w hS => ?_
          refine st1 hS (ldbA 6 rfl hB2126 rfl ([.slice A1921 x1923.length c1922, .slice A2112 codes2114.length c2113]) rfl rfl Tryd.isAgg71 Tryd.sizeOf71) rfl fun a w hS => ?_
          refine st1 hS (ldbA 2 rfl hB2141 rfl ([.slice A1925 x1927.length c1926, .slice A2127 codes2129.length c2128]) rfl rfl Tryd.isAgg71 Tryd.sizeOf71) rfl fun a w hS => ?_
          refine s_call hS rfl Tryd.call31 (mortiseref07_state_symbols_c hG K (T_mortiseref07_state.mk (T_mortiseref05_Reader.mk s1620.r_.S_ at_1691) s1620.out_ s1620.limit_) (T_mortiseref07_code.mk x1923 codes2114) (T_mortiseref07_code.mk x1927 codes2129) b1621 f1622 b1624 f1692 A1627 c1628 f1629 A1921 c1922 A2112 c2113 A1925 c1926 A2127 c2128 hB1623 h1693 hV1630 (h1929.rdF (i := 8) rfl) (h1929.cap (fun _ => rfl) rfl) (h2117.rdF (i := 7) rfl) (h2117.cap (fun _ => rfl) rfl) (h1930.rdF (i := 9) rfl) (h1930.cap (fun _ => rfl) rfl) (h2132.rdF (i := 3) rfl) (h2132.cap (fun _ => rfl) rfl) (hS.st.part 3 [10, 11, 12, 0, 1, 2, 3, 4, 5, 6, 7, 8, 9] (by kernel_rfl)) (wp_bind hM) (fun x2522 at_2523 f2524 A2525 c2526 out2527 f2528 f2529 w hM h2530 h2531 h2532 hst => s_back hS.ev hst.appF rfl fun hS => ?_))
          replace hS : Ss _ _ _ H [f2529, f2524, f2528, f2138, f2136, f2140, f2130, f2123, f2121, f2125, f2115, f1924, f1928] F _ _ := hS
          refine st1x (v := Value.bool) hS (asg rfl) rfl fun v2533 a w hz hS => ?_
          have hM := lt_to hz hM; clear hz
          refine st1 hS (asg rfl) rfl fun a w hS => ?_
          refine wpList_nil ?_
          refine then_n ?_
          refine wp_ret ?_
          refine blk_ret (then_ret ?_)
          exact s_ret (rs := [2, 3]) hS rfl rfl (hret v2533 x2522 at_2523 f2524 A2525 c2526 out2527 f2528 f2529 w hM h2530 h2531 h2532 (hS.st.pick [0, 1, 2] (by kernel_rfl)))
        · refine wp_seq ?_
          refine wp_region_list ?_
          refine st1 hS (bin rfl rfl rfl) rfl fun a w hS => ?_
          refine st1x (v := Value.bool) hS (asg rfl) rfl fun v2534 a w hz hS => ?_
          have hM := lt_to hz hM; clear hz
          refine wpList_nil ?_
          refine then_n ?_
          refine s_cond hS rfl hM (fun hb2535 hM => ?_) (fun hb2535 hM => ?_)
          · refine wp_seq ?_
            refine wp_region_list ?_
            refine st1 hS (mv rfl) rfl fun a w hS => ?_
            refine st1 hS (bin rfl rfl rfl) rfl fun a w hS => ?_
            refine st1 hS (mv rfl) rfl fun a w hS => ?_
            refine s_call hS rfl Tryd.call32 (mortiseref07_state_dynamic_c hG K (T_mortiseref07_state.mk (T_mortiseref05_Reader.mk s1620.r_.S_ at_1691) s1620.out_ s1620.limit_) b1621 f1622 b1624 f1692 A1627 c1628 f1629 hB1623 h1693 hV1630 (hS.st.part 3 [0, 1, 2] (by kernel_rfl)) (wp_bind hM) (fun x3093 at_3094 f3095 A3096 c3097 out3098 f3099 f3100 w hM h3101 h3102 h3103 hst => s_back hS.ev hst.appF rfl fun hS => ?_))
            replace hS : Ss _ _ _ H [f3100, f3095, f3099] F _ _ := hS
            refine st1x (v := Value.bool) hS (asg rfl) rfl fun v3104 a w hz hS => ?_
            have hM := lt_to hz hM; clear hz
            refine st1 hS (asg rfl) rfl fun a w hS => ?_
            refine wpList_nil ?_
            refine then_n ?_
            refine wp_ret ?_
            refine blk_ret (then_ret ?_)
            exact s_ret (rs := [2, 3]) hS rfl rfl (hret v3104 x3093 at_3094 f3095 A3096 c3097 out3098 f3099 f3100 w hM h3101 h3102 h3103 (hS.st.pick [0, 1, 2] (by kernel_rfl)))
          · refine wp_skip ?_
            refine blk_n (then_n ?_)
            refine wp_seq ?_
            refine wp_region_list ?_
            refine st1 hS (asg rfl) rfl fun a w hS => ?_
            refine st1 hS (asg rfl) rfl fun a w hS => ?_
            refine wpList_nil ?_
            refine then_n ?_
            refine wp_ret ?_
            exact s_ret (rs := [2, 3]) hS rfl rfl (hret false (3 : Int) at_1691 f1692 A1627 c1628 s1620.out_ f1629 f1622 w hM h1693 hV1630 hB1623 (hS.st.pick [0, 1, 2] (by kernel_rfl)))

theorem mortiseref07_Inflate_c {H : Imm} {F : List Frag} {w : World} {R : Ending → World → Prop} {kr : ((List UInt8) × Int × Int) → Prop} {kp : Value → Prop} (hG : Gl H) (K : Nat) (t3117 : List UInt8) (limit3118 : Int)
    (hS : St w H [] F) (hm : (mortiseref07_Inflate.m K t3117 limit3118).wp kr kp)
    (hret : ∀ (x3187 : List UInt8) (x3188 : Int) (x3189 : Int) (w : World), kr (x3187, x3188, x3189) → St w H [] F → R (.returned (.tuple ⟨[str x3187, .int .i64 x3188, .int .i64 x3189]⟩)) w) :
    Calls Tryd.prog 11 ⟨[str t3117, .int .i64 limit3118]⟩ w R := by
  refine enter Tryd.func11 rfl Tryd.ntmps11 rfl hS fun a w hS => ?_
  have hM := hm; clear hm
  rw [mortiseref07_Inflate.m] at hM
  refine wp_seq ?_
  refine wp_region_list ?_
  refine st1 hS (asg rfl) rfl fun a w hS => ?_
  refine st1 hS (asg rfl) rfl fun a w hS => ?_
  refine st1 hS (asg rfl) rfl fun a w hS => ?_
  refine wpList_nil ?_
  refine then_n ?_
  refine wp_seq ?_
  refine wp_seq ?_
  refine wp_region_list ?_
  refine st1 hS (mv rfl) rfl fun a w hS => ?_
  refine st1 hS (bin rfl rfl rfl) rfl fun a w hS => ?_
  refine st1 hS (mv rfl) rfl fun a w hS => ?_
  refine g_op 2 false 12 (b := (decide (limit3118 < (0 : Int)))) (r := (decide (limit3118 > (1073741824 : Int)))) hS rfl rfl rfl rfl rfl rfl rfl (fun hb a w hS K hK => ?_) rfl fun a w hS => ?_
  · refine st1g hS rfl rfl rfl hb (mv rfl) rfl fun a w hS => ?_
    refine st1g hS rfl rfl rfl hb (bin rfl rfl rfl) rfl fun a w hS => ?_
    exact wpList_nil (hK _ _ (hS.up 2 rfl rfl))
  refine wpList_nil ?_
  refine then_n ?_
  refine s_cond hS rfl hM (fun hb3119 hM => ?_) (fun hb3119 hM => ?_)
  · refine wp_seq ?_
    refine wp_region_list ?_
    refine st1 hS (asg rfl) rfl fun a w hS => ?_
    refine st1 hS (asg rfl) rfl fun a w hS => ?_
    refine st1 hS (asg rfl) rfl fun a w hS => ?_
    refine wpList_nil ?_
    refine then_n ?_
    refine wp_ret ?_
    refine then_ret ?_
    exact s_ret (rs := [4, 5, 6]) hS rfl rfl (hret ([] : List UInt8) (0 : Int) (1 : Int) w hM (hS.st.pick [] (by kernel_rfl)))
  · refine wp_skip ?_
    refine then_n ?_
    refine wp_seq ?_
    refine wp_region_list ?_
    refine st1 hS (mv rfl) rfl fun a w hS => ?_
    refine st1 hS (bld ([str t3117, .int .i64 (0 : Int)]) [(0, 1), (1, 1)] Tryd.zeroValue49 Tryd.runUnderlying49 (by intro w; simp [Tryd.sizeOf3, Tryd.sizeOf9]) rfl rfl) rfl fun a w hS => ?_
    refine bx ([str t3117, .int .i64 (0 : Int)]) hS rfl rfl rfl fun w b3120 f3121 hB3122 hS => ?_
    refine st1 hS (mv rfl) rfl fun a w hS => ?_
    refine st1 hS (bld ([ptr b3120 0, .slice none 0 0, .int .i64 limit3118]) [(0, 1), (1, 1), (2, 1)] Tryd.zeroValue51 Tryd.runUnderlying51 (by intro w; simp [Tryd.sizeOf3, Tryd.sizeOf30, Tryd.sizeOf47]) rfl rfl) rfl fun a w hS => ?_
    refine bx ([ptr b3120 0, .slice none 0 0, .int .i64 limit3118]) hS rfl rfl rfl fun w b3123 f3124 hB3125 hS => ?_
    obtain ⟨f3126, hV3127, hS⟩ := hS.nilV 5 (ci .u8) 1
    refine st1 hS (asg rfl) rfl fun a w hS => ?_
    refine wpList_nil ?_
    refine then_n ?_
    refine wp_block ?_
    refine s_loopJ (fun k3167 a w => ∃ (at_3157 : Int) (f3158 : Frag) (A3160 : Option Addr) (c3161 : Nat) (out3162 : (List Int)) (f3163 : Frag) (f3165 : Frag), Ss 45 [] [(7, ptr b3123 0)] H [f3165, f3158, f3163] F a w ∧ (Blk f3158 b3120 ([str t3117, .int .i64 at_3157]) 49) ∧ (Vec 5 (ci .u8) 1 A3160 out3162 c3161 f3163) ∧ (Blk f3165 b3123 ([ptr b3120 0, .slice A3160 out3162.length c3161, .int .i64 limit3118]) 51) ∧ (mortiseref07_Inflate.l1 K t3117 limit3118 k3167 at_3157 out3162).wp kr kp) K ?_ ?_ ?_
    · exact ⟨(0 : Int), f3121, none, 0, ([] : List Int), f3126, f3124, hS.to [1, 2, 0] (by kernel_rfl) ⟨rfl, trivial⟩, hB3122, hV3127, hB3125, hM⟩
    · intro a w hI; obtain ⟨_, _, _, _, _, _, _, _, _, _, _, hM⟩ := hI; exact hM
    · intro k3167 a w hI J3186 hJ3186
      obtain ⟨at_3157, f3158, A3160, c3161, out3162, f3163, f3165, hS, hB3159, hV3164, hB3166, hM⟩ := hI
      rw [mortiseref07_Inflate.l1] at hM
      refine wp_block ?_
      refine wp_seq ?_
      refine wp_region_list ?_
      refine st1 hS (mv rfl) rfl fun a w hS => ?_
      refine s_call hS rfl Tryd.call20 (mortiseref07_state_block_c hG K (T_mortiseref07_state.mk (T_mortiseref05_Reader.mk t3117 at_3157) out3162 limit3118) b3123 f3165 b3120 f3158 A3160 c3161 f3163 hB3166 hB3159 hV3164 (hS.st.part 3 [0, 1, 2] (by kernel_rfl)) (wp_bind hM) (fun x3168 x3169 at_3170 f3171 A3172 c3173 out3174 f3175 f3176 w hM h3177 h3178 h3179 hst => s_back hS.ev hst.appF rfl fun hS => ?_))
      replace hS : Ss _ _ _ H [f3176, f3171, f3175] F _ _ := hS
      refine st1 hS (mv rfl) rfl fun a w hS => ?_
      refine st1 hS (ex rfl rfl) rfl fun a w hS => ?_
      refine st1 hS (ex rfl rfl) rfl fun a w hS => ?_
      refine st1 hS (asg rfl) rfl fun a w hS => ?_
      refine st1 hS (asg rfl) rfl fun a w hS => ?_
      refine wpList_nil ?_
      refine then_n ?_
      refine wp_seq ?_
      refine wp_seq ?_
      refine wp_region_list ?_
      refine st1 hS (mv rfl) rfl fun a w hS => ?_
      refine st1 hS (bin rfl rfl rfl) rfl fun a w hS => ?_
      refine wpList_nil ?_
      refine then_n ?_
      refine s_cond hS rfl hM (fun hb3180 hM => ?_) (fun hb3180 hM => ?_)
      · refine wp_seq ?_
        refine wp_region_list ?_
        refine st1 hS (mv rfl) rfl fun a w hS => ?_
        refine st1 hS (asg rfl) rfl fun a w hS => ?_
        refine st1 hS (asg rfl) rfl fun a w hS => ?_
        refine st1 hS (asg rfl) rfl fun a w hS => ?_
        refine wpList_nil ?_
        refine then_n ?_
        refine wp_ret ?_
        refine then_ret (blk_ret (then_ret (blk_ret ?_)))
        exact s_ret (rs := [4, 5, 6]) hS rfl rfl (hret ([] : List UInt8) (0 : Int) x3169 w hM (hS.st.pick [] (by kernel_rfl)))
      · refine wp_skip ?_
        refine then_n ?_
        refine wp_seq ?_
        refine wp_region_list ?_
        refine st1 hS (mv rfl) rfl fun a w hS => ?_
        refine wpList_nil ?_
        refine then_n ?_
        refine s_cond hS rfl hM (fun hb3181 hM => ?_) (fun hb3181 hM => ?_)
        · refine wp_seq ?_
          obtain ⟨v3182, hz3183⟩ : ∃ x, x = (out3174.map tob) := ⟨_, rfl⟩
          replace hM := lt_to hz3183 hM
          obtain ⟨v3184, hz3185⟩ : ∃ x, x = (iquo .i64 (w64 (at_3170 + (7 : Int))) (8 : Int)) := ⟨_, rfl⟩
          replace hM := lt_to hz3185 hM
          refine draw_begin (vals := [some (ptr b3123 0), some (ptr b3123 0), some (ptr b3123 1), some (.slice A3172 out3174.length c3173), some (str (out3174.map tob)), some (ptr b3123 0), some (ptr b3123 0), some (ptr b3123 0), some (ptr b3120 0), some (ptr b3120 0), some (ptr b3120 1), some (.int .i64 at_3170), some (.int .i64 (w64 (at_3170 + (7 : Int)))), some (.int .i64 (iquo .i64 (w64 (at_3170 + (7 : Int))) (8 : Int))), some (str v3182), some (.int .i64 v3184), some (.int .i64 (0 : Int))]) hS mixed rfl ?_
          intro l w ho hcl hA hst
          refine phaseE (vals := [some (ptr b3123 0), some (ptr b3123 0), some (ptr b3123 1), some (.slice A3172 out3174.length c3173), some (str (out3174.map tob)), some (ptr b3123 0), some (ptr b3123 0), some (ptr b3123 0), some (ptr b3120 0), some (ptr b3120 0), some (ptr b3120 1), some (.int .i64 at_3170), some (.int .i64 (w64 (at_3170 + (7 : Int)))), some (.int .i64 (iquo .i64 (w64 (at_3170 + (7 : Int))) (8 : Int))), some (str v3182), some (.int .i64 v3184), some (.int .i64 (0 : Int))]) [] [0, 1, 2, 3, 4, 5, 6, 7, 8, 9, 10, 11, 12, 13, 14, 15, 16] rfl rfl rfl (by exact ⟨nR rfl rfl rfl rfl rfl (by exact ovE (mv rfl) rfl), nR rfl rfl rfl rfl rfl (by exact ovE (nck rfl) rfl), nR rfl rfl rfl rfl rfl (by exact ovE (fad rfl Tryd.runUnderlying51 rfl Tryd.sizeOf30 rfl) rfl), nR rfl rfl rfl rfl rfl (by exact ovE (ldb 0 rfl h3179 rfl rfl Tryd.isAgg30) rfl), nR rfl rfl rfl rfl rfl (by exact ovE (cbs rfl Tryd.runUnderlying30 Tryd.runUnderlying5 Tryd.runUnderlying9 (h3178.rd (i := 2) rfl)) rfl), nR rfl rfl rfl rfl rfl (by exact ovE (mv rfl) rfl), nR rfl rfl rfl rfl rfl (by exact ovE (nck rfl) rfl), nR rfl rfl rfl rfl rfl (by exact ovE (fad rfl Tryd.runUnderlying51 rfl Tryd.sizeOf47 rfl) rfl), nR rfl rfl rfl rfl rfl (by exact ovE (ldb 0 rfl h3179 rfl rfl Tryd.isAgg47) rfl), nR rfl rfl rfl rfl rfl (by exact ovE (nck rfl) rfl), nR rfl rfl rfl rfl rfl (by exact ovE (fad rfl Tryd.runUnderlying49 rfl Tryd.sizeOf3 rfl) rfl), nR rfl rfl rfl rfl rfl (by exact ovE (ldb 1 rfl h3177 rfl rfl Tryd.isAgg3) rfl), nR rfl rfl rfl rfl rfl (by exact ovE (bin rfl rfl rfl) rfl), nR rfl rfl rfl rfl rfl (by exact ovE (quo rfl rfl rfl) rfl), nR rfl rfl rfl rfl rfl (by exact ovE (asg rfl) (congrArg (str) hz3183.symm)), nR rfl rfl rfl rfl rfl (by exact ovE (asg rfl) (congrArg (Value.int .i64) hz3185.symm)), nR rfl rfl rfl rfl rfl (by exact ovE (asg rfl) rfl), trivial⟩) (fun a w hS => ?_) ho hcl (fun m hm => (List.not_mem_nil hm).elim) hA hst
          replace hS := hS.env2 (e' := [(4, str v3182), (5, .int .i64 v3184), (6, .int .i64 (0 : Int))]) ⟨rfl, rfl, rfl, trivial⟩
          refine then_n ?_
          refine wp_ret ?_
          refine blk_ret (then_ret (blk_ret ?_))
          exact s_ret (rs := [4, 5, 6]) hS rfl rfl (hret v3182 v3184 (0 : Int) w hM (hS.st.pick [] (by kernel_rfl)))
        · refine wp_skip ?_
          refine blk_n (then_n ?_)
          exact hJ3186 _ _ ⟨at_3170, f3171, A3172, c3173, out3174, f3175, f3176, hS.to [0, 1, 2] (by kernel_rfl) ⟨rfl, trivial⟩, h3177, h3178, h3179, hM⟩

theorem bits_New_c {H : Imm} {F : List Frag} {w : World} {R : Ending → World → Prop} {kr : Unit → Prop} {kp : Value → Prop} (hG : Gl H) (K : Nat) (s3221 : List UInt8)
    (hS : St w H [] F) (hm : (bits_New.m K s3221).wp kr kp)
    (hret : ∀ (b3225 : Nat) (f3226 : Frag) (w : World), kr () → (Blk f3226 b3225 ([.int .i64 (0 : Int), str s3221]) 57) → St w H [f3226] F → R (.returned (ptr b3225 0)) w) :
    Calls Tryd.prog 17 ⟨[str s3221]⟩ w R := by
  refine enter Tryd.func17 rfl Tryd.ntmps17 rfl hS fun a w hS => ?_
  have hM := hm; clear hm
  rw [bits_New.m] at hM
  refine wp_seq ?_
  refine wp_region_list ?_
  refine st1 hS (asg rfl) rfl fun a w hS => ?_
  refine wpList_nil ?_
  refine then_n ?_
  refine wp_seq ?_
  refine wp_region_list ?_
  refine st1 hS (mv rfl) rfl fun a w hS => ?_
  refine st1 hS (bld ([.int .i64 (0 : Int), str s3221]) [(0, 1), (1, 1)] Tryd.zeroValue57 Tryd.runUnderlying57 (by intro w; simp [Tryd.sizeOf55, Tryd.sizeOf9]) rfl rfl) rfl fun a w hS => ?_
  refine bx ([.int .i64 (0 : Int), str s3221]) hS rfl rfl rfl fun w b3222 f3223 hB3224 hS => ?_
  refine st1 hS (asg rfl) rfl fun a w hS => ?_
  refine wpList_nil ?_
  refine then_n ?_
  refine wp_ret ?_
  exact s_ret (rs := [2]) hS rfl rfl (hret b3222 f3223 w hM hB3224 (hS.st.pick [0] (by kernel_rfl)))

theorem bits_Reader_At_c {H : Imm} {F : List Frag} {w : World} {R : Ending → World → Prop} {kr : Unit → Prop} {kp : Value → Prop} (hG : Gl H) (K : Nat) (r3294 : T_bits_Reader) (b3295 : Nat) (f3296 : Frag) (hB3297 : Blk f3296 b3295 ([.int .i64 r3294.place_.at_, str r3294.text_]) 57)
    (hS : St w H [f3296] F) (hm : (bits_Reader_At.m K r3294).wp kr kp)
    (hret : ∀ (w : World), kr () → St w H [f3296] F → R (.returned (.int .i64 r3294.place_.at_)) w) :
    Calls Tryd.prog 19 ⟨[ptr b3295 0]⟩ w R := by
  refine enter Tryd.func19 rfl Tryd.ntmps19 rfl hS fun a w hS => ?_
  have hM := hm; clear hm
  rw [bits_Reader_At.m] at hM
  refine wp_seq ?_
  refine wp_region_list ?_
  refine st1 hS (asg rfl) rfl fun a w hS => ?_
  refine wpList_nil ?_
  refine then_n ?_
  refine wp_seq ?_
  refine wp_seq ?_
  refine wp_region_list ?_
  refine st1 hS (mv rfl) rfl fun a w hS => ?_
  refine st1 hS (eqNil rfl rfl Tryd.runUnderlying41) rfl fun a w hS => ?_
  refine wpList_nil ?_
  refine then_n ?_
  refine s_condF hS rfl ?_
  refine wp_skip ?_
  refine then_n ?_
  refine wp_seq ?_
  refine wp_region_list ?_
  refine st1 hS (mv rfl) rfl fun a w hS => ?_
  refine st1 hS (nck rfl) rfl fun a w hS => ?_
  refine st1 hS (fad rfl Tryd.runUnderlying57 rfl Tryd.sizeOf55 rfl) rfl fun a w hS => ?_
  refine st1 hS (fad rfl Tryd.runUnderlying55 rfl Tryd.sizeOf3 rfl) rfl fun a w hS => ?_
  refine st1 hS (ldb 0 rfl hB3297 rfl rfl Tryd.isAgg3) rfl fun a w hS => ?_
  refine st1 hS (asg rfl) rfl fun a w hS => ?_
  refine wpList_nil ?_
  refine then_n ?_
  refine wp_ret ?_
  exact s_ret (rs := [2]) hS rfl rfl (hret w hM (hS.st.pick [0] (by kernel_rfl)))

theorem inflate_Inflate_c {H : Imm} {F : List Frag} {w : World} {R : Ending → World → Prop} {kr : ((List UInt8) × Int × Int) → Prop} {kp : Value → Prop} (hG : Gl H) (K : Nat) (s3190 : List UInt8) (limit3191 : Int)
    (hS : St w H [] F) (hm : (inflate_Inflate.m K s3190 limit3191).wp kr kp)
    (hret : ∀ (x3305 : List UInt8) (x3306 : Int) (x3307 : Int) (w : World), kr (x3305, x3306, x3307) → St w H [] F → R (.returned (.tuple ⟨[str x3305, .int .i64 x3306, .int .i64 x3307]⟩)) w) :
    Calls Tryd.prog 10 ⟨[str s3190, .int .i64 limit3191]⟩ w R := by
  refine enterD Tryd.func10 rfl Tryd.ntmps10 rfl hS fun a w hS => ?_
  have hM := hm; clear hm
  rw [inflate_Inflate.m] at hM
  refine wp_seq ?_
  refine wp_region_list ?_
  refine alc ([str ([] : List UInt8)]) hS Tryd.zeroValue9 rfl rfl fun w b3192 f3193 hB3194 hS => ?_
  refine alc ([.int .i64 (0 : Int)]) hS Tryd.zeroValue3 rfl rfl fun w b3195 f3196 hB3197 hS => ?_
  refine alc ([.int .i64 (0 : Int)]) hS Tryd.zeroValue23 rfl rfl fun w b3198 f3199 hB3200 hS => ?_
  refine wpList_nil ?_
  refine then_n ?_
  refine wp_seq ?_
  refine wp_seq ?_
  refine wp_region_list ?_
  refine st1 hS (mv rfl) rfl fun a w hS => ?_
  refine st1 hS (bin rfl rfl rfl) rfl fun a w hS => ?_
  refine st1 hS (mv rfl) rfl fun a w hS => ?_
  refine g_op 2 false 10 (b := (decide (limit3191 < (0 : Int)))) (r := (decide (limit3191 > (1073741824 : Int)))) hS rfl rfl rfl rfl rfl rfl rfl (fun hb a w hS K hK => ?_) rfl fun a w hS => ?_
  · refine st1g hS rfl rfl rfl hb (mv rfl) rfl fun a w hS => ?_
    refine st1g hS rfl rfl rfl hb (bin rfl rfl rfl) rfl fun a w hS => ?_
    exact wpList_nil (hK _ _ (hS.up 2 rfl rfl))
  refine wpList_nil ?_
  refine then_n ?_
  refine s_cond hS rfl hM (fun hb3201 hM => ?_) (fun hb3201 hM => ?_)
  · refine wp_seq ?_
    refine wp_region_list ?_
    refine sto 2 ([str ([] : List UInt8)]) hS rfl rfl hB3194 rfl rfl rfl rfl Tryd.sizeOf9 fun w f3202 hB3203 hS => ?_
    refine sto 1 ([.int .i64 (0 : Int)]) hS rfl rfl hB3197 rfl rfl rfl rfl Tryd.sizeOf3 fun w f3204 hB3205 hS => ?_
    refine sto 0 ([.int .i64 (1 : Int)]) hS rfl rfl hB3200 rfl rfl rfl rfl Tryd.sizeOf23 fun w f3206 hB3207 hS => ?_
    refine wpList_nil ?_
    refine then_n ?_
    refine wp_ret ?_
    refine then_ret ?_
    exact s_retD0 hS.ev (leavesRet (vs := [str ([] : List UInt8), .int .i64 (0 : Int), .int .i64 (1 : Int)]) hS.ev hS.st rfl (by exact ⟨rvC 2 rfl hB3203 rfl rfl Tryd.isAgg9, rvC 1 rfl hB3205 rfl rfl Tryd.isAgg3, rvC 0 rfl hB3207 rfl rfl Tryd.isAgg23, trivial⟩) (hret ([] : List UInt8) (0 : Int) (1 : Int) w hM (hS.st.pick [] (by kernel_rfl))))
  · refine wp_skip ?_
    refine then_n ?_
    refine wp_seq ?_
    refine wp_region_list ?_
    refine st1 hS (mkF rfl rfl) rfl fun a w hS => ?_
    refine s_defer hS rfl fun a w hS => ?_
    obtain ⟨kpd3209, hkd3210, hM⟩ := wp_catch hM
    have hpd3208 : ∀ v w a, kpd3209 v → Ev 35 [⟨.fn (.func 16) ⟨[ptr b3192 0, ptr b3195 0, ptr b3198 0]⟩, ⟨[]⟩⟩] [(4, ptr b3192 0), (5, ptr b3195 0), (6, ptr b3198 0)] a → St w H [f3193, f3196, f3199] F → bodyPostD Tryd.prog Tryd.f10 R (.panic [⟨v, false, false⟩]) a w := by
      intro v w a hk hE3214 hst
      have hM := hkd3210 v hk
      rw [inflate_Inflate.h1] at hM
      obtain ⟨e3211, he3212, hM⟩ := wp_unw hM
      cases asE_eq he3212
      refine s_panD hE3214 hst Tryd.call16 Tryd.func16 rfl Tryd.ntmps16 rfl rfl rfl fun a w hS => ?_
      refine wp_seq ?_
      refine wp_region_list ?_
      refine st1 hS (mv rfl) rfl fun a w hS => ?_
      refine st1 hS (ifI .neq rfl rfl Tryd.runUnderlying20 rfl) rfl fun a w hS => ?_
      refine wpList_nil ?_
      refine then_n ?_
      refine s_condT hS rfl ?_
      refine draw_begin (vals := [some (.iface 39 (.agg ⟨[.int .i64 e3211]⟩)), some (.agg ⟨[.int .i64 e3211]⟩), some (.int .i64 e3211), none, none, none]) hS mixed rfl ?_
      intro l w ho hcl hA hst
      refine phase' (vals := [some (.iface 39 (.agg ⟨[.int .i64 e3211]⟩)), some (.agg ⟨[.int .i64 e3211]⟩), some (.int .i64 e3211), none, none, none]) 3 [] [0, 1, 2] rfl rfl rfl rfl (by exact ⟨nR rfl rfl rfl rfl rfl (by exact ovE (mv rfl) rfl), nR rfl rfl rfl rfl rfl (by exact ovE (tas rfl Tryd.runUnderlying39 rfl) rfl), nR rfl rfl rfl rfl rfl (by exact ovE (fld rfl Tryd.runUnderlying39 rfl Tryd.isAgg23 rfl) rfl), trivial⟩) (fun D l a w ho hcl hav hpre hm hE hk hA hst => ?_) ho hcl (fun j hj => (List.not_mem_nil hj).elim) (fun m hm => (List.not_mem_nil hm).elim) List.not_mem_nil hA hst
      have hS := (Ss.mk hE hst).env2 (e' := [(0, ptr b3192 0)]) ⟨rfl, trivial⟩
      refine op_of_nth rfl ?_
      refine sto 0 ([str ([] : List UInt8)]) hS rfl rfl hB3194 rfl rfl rfl rfl Tryd.sizeOf9 fun w f3215 hB3216 hS => ?_
      refine wpList_nil (then_n ?_)
      have hcl2 := hcl.cons (k := 3) (nth_get rfl) hpre
      have hmust := must_cons (k := 3) hm (chain (k := 3) hcl (nth_get rfl) hpre [] [] rfl (fun _ h => absurd h List.not_mem_nil))
      replace hst := hS.st
      have hav2 := hav.cons (vals' := [some (.iface 39 (.agg ⟨[.int .i64 e3211]⟩)), some (.agg ⟨[.int .i64 e3211]⟩), some (.int .i64 e3211), some undef, none, none]) (k := 3) ⟨rfl, rfl, rfl, trivial⟩ rfl
      replace hA := (hA.next hav (subV.get (l' := [some (.iface 39 (.agg ⟨[.int .i64 e3211]⟩)), some (.agg ⟨[.int .i64 e3211]⟩), some (.int .i64 e3211), some undef, none, none]) ⟨rfl, rfl, rfl, trivial⟩)).stepN (i := 3) (nth_get rfl) rfl
      clear hm hav
      replace hcl := hcl2
      refine phase' (vals := [some (.iface 39 (.agg ⟨[.int .i64 e3211]⟩)), some (.agg ⟨[.int .i64 e3211]⟩), some (.int .i64 e3211), some undef, none, none]) 4 [3] [0, 1, 2] rfl rfl rfl rfl (by exact ⟨nR rfl rfl rfl rfl rfl (by exact ovE (mv rfl) rfl), nR rfl rfl rfl rfl rfl (by exact ovE (tas rfl Tryd.runUnderlying39 rfl) rfl), nR rfl rfl rfl rfl rfl (by exact ovE (fld rfl Tryd.runUnderlying39 rfl Tryd.isAgg23 rfl) rfl), trivial⟩) (fun D l a w ho hcl hav hpre hm hE hk hA hst => ?_) ho hcl hav2 hmust (hav2.notin rfl) hA hst
      have hS := (Ss.mk hE hst).env2 (e' := [(1, ptr b3195 0)]) ⟨rfl, trivial⟩
      refine op_of_nth rfl ?_
      refine sto 1 ([.int .i64 (0 : Int)]) hS rfl rfl hB3197 rfl rfl rfl rfl Tryd.sizeOf3 fun w f3217 hB3218 hS => ?_
      refine wpList_nil (then_n ?_)
      have hcl2 := hcl.cons (k := 4) (nth_get rfl) hpre
      have hmust := must_cons (k := 4) hm (chain (k := 4) hcl (nth_get rfl) hpre [(3, 4)] [] rfl (fun _ h => absurd h List.not_mem_nil))
      replace hst := hS.st
      have hav2 := hav.cons (vals' := [some (.iface 39 (.agg ⟨[.int .i64 e3211]⟩)), some (.agg ⟨[.int .i64 e3211]⟩), some (.int .i64 e3211), some undef, some undef, none]) (k := 4) ⟨rfl, rfl, rfl, rfl, trivial⟩ rfl
      replace hA := (hA.next hav (subV.get (l' := [some (.iface 39 (.agg ⟨[.int .i64 e3211]⟩)), some (.agg ⟨[.int .i64 e3211]⟩), some (.int .i64 e3211), some undef, some undef, none]) ⟨rfl, rfl, rfl, rfl, trivial⟩)).stepN (i := 4) (nth_get rfl) rfl
      clear hm hav
      replace hcl := hcl2
      refine phase' (vals := [some (.iface 39 (.agg ⟨[.int .i64 e3211]⟩)), some (.agg ⟨[.int .i64 e3211]⟩), some (.int .i64 e3211), some undef, some undef, none]) 5 [4, 3, 3] [0, 1, 2] rfl rfl rfl rfl (by exact ⟨nR rfl rfl rfl rfl rfl (by exact ovE (mv rfl) rfl), nR rfl rfl rfl rfl rfl (by exact ovE (tas rfl Tryd.runUnderlying39 rfl) rfl), nR rfl rfl rfl rfl rfl (by exact ovE (fld rfl Tryd.runUnderlying39 rfl Tryd.isAgg23 rfl) rfl), trivial⟩) (fun D l a w ho hcl hav hpre hm hE hk hA hst => ?_) ho hcl hav2 hmust (hav2.notin rfl) hA hst
      have hS := (Ss.mk hE hst).env2 (e' := [(2, ptr b3198 0), (9, .int .i64 e3211)]) ⟨rfl, rfl, trivial⟩
      refine op_of_nth rfl ?_
      refine sto 2 ([.int .i64 e3211]) hS rfl rfl hB3200 rfl rfl rfl rfl Tryd.sizeOf23 fun w f3219 hB3220 hS => ?_
      refine wpList_nil (then_n ?_)
      have hcl2 := hcl.cons (k := 5) (nth_get rfl) hpre
      have hmust := must_cons (k := 5) hm (chain (k := 5) hcl (nth_get rfl) hpre [(0, 5), (1, 5), (2, 5), (3, 5), (4, 5)] [] rfl (fun _ h => absurd h List.not_mem_nil))
      replace hst := hS.st
      have hav2 := hav.cons (vals' := [some (.iface 39 (.agg ⟨[.int .i64 e3211]⟩)), some (.agg ⟨[.int .i64 e3211]⟩), some (.int .i64 e3211), some undef, some undef, some undef]) (k := 5) ⟨rfl, rfl, rfl, rfl, rfl, trivial⟩ rfl
      replace hA := (hA.next hav (subV.get (l' := [some (.iface 39 (.agg ⟨[.int .i64 e3211]⟩)), some (.agg ⟨[.int .i64 e3211]⟩), some (.int .i64 e3211), some undef, some undef, some undef]) ⟨rfl, rfl, rfl, rfl, rfl, trivial⟩)).stepN (i := 5) (nth_get rfl) rfl
      clear hm hav
      replace hcl := hcl2
      refine phaseE (vals := [some (.iface 39 (.agg ⟨[.int .i64 e3211]⟩)), some (.agg ⟨[.int .i64 e3211]⟩), some (.int .i64 e3211), some undef, some undef, some undef]) [5, 0, 1, 2, 3, 4, 4, 3, 3] [] rfl rfl rfl trivial (fun a w hS => ?_) ho hcl hmust hA hst
      replace hS := hS.env2 (e' := []) trivial
      exact d_end hS rfl (leavesRet (vs := [str ([] : List UInt8), .int .i64 (0 : Int), .int .i64 e3211]) hE3214 hS.st rfl (by exact ⟨rvC 0 rfl hB3216 rfl rfl Tryd.isAgg9, rvC 1 rfl hB3218 rfl rfl Tryd.isAgg3, rvC 2 rfl hB3220 rfl rfl Tryd.isAgg23, trivial⟩) (hret ([] : List UInt8) (0 : Int) e3211 w hM (hS.st.pick [] (by kernel_rfl))))
    rw [inflate_Inflate.j2] at hM
    refine wpList_nil ?_
    refine then_n ?_
    refine wp_seq ?_
    refine wp_region_list ?_
    refine st1 hS (mv rfl) rfl fun a w hS => ?_
    refine s_call hS rfl Tryd.call17 (bits_New_c hG K s3190 (hS.st.part 0 [0, 1, 2] (by kernel_rfl)) (wp_bind hM) (fun b3228 f3229 w hM h3230 hst => s_back hS.ev hst.appF rfl fun hS => ?_))
    replace hS : Ss _ _ _ H [f3229, f3199, f3196, f3193] F _ _ := hS
    refine st1 hS (mv rfl) rfl fun a w hS => ?_
    refine st1 hS (bld ([ptr b3228 0, .slice none 0 0, .int .i64 limit3191]) [(0, 1), (1, 1), (2, 1)] Tryd.zeroValue44 Tryd.runUnderlying44 (by intro w; simp [Tryd.sizeOf3, Tryd.sizeOf30, Tryd.sizeOf41]) rfl rfl) rfl fun a w hS => ?_
    refine bx ([ptr b3228 0, .slice none 0 0, .int .i64 limit3191]) hS rfl rfl rfl fun w b3231 f3232 hB3233 hS => ?_
    obtain ⟨f3234, hV3235, hS⟩ := hS.nilV 5 (ci .u8) 1
    refine st1 hS (asg rfl) rfl fun a w hS => ?_
    refine wpList_nil ?_
    refine then_n ?_
    refine seq_joinJ (fun a w => ∃ (at_3283 : Int) (f3284 : Frag) (A3286 : Option Addr) (c3287 : Nat) (out3288 : (List Int)) (f3289 : Frag) (f3291 : Frag), Ss 35 [⟨.fn (.func 16) ⟨[ptr b3192 0, ptr b3195 0, ptr b3198 0]⟩, ⟨[]⟩⟩] [(4, ptr b3192 0), (5, ptr b3195 0), (6, ptr b3198 0), (7, ptr b3231 0)] H [f3193, f3196, f3199, f3291, f3284, f3289] F a w ∧ (Blk f3284 b3228 ([.int .i64 at_3283, str s3190]) 57) ∧ (Vec 5 (ci .u8) 1 A3286 out3288 c3287 f3289) ∧ (Blk f3291 b3231 ([ptr b3228 0, .slice A3286 out3288.length c3287, .int .i64 limit3191]) 44) ∧ (inflate_Inflate.j4 K s3190 at_3283 out3288).wp kr kpd3209) (fun J3293 hJ3293 => ?_) ?_
    · refine wp_block ?_
      refine s_loopJ (fun k3269 a w => ∃ (at_3259 : Int) (f3260 : Frag) (A3262 : Option Addr) (c3263 : Nat) (out3264 : (List Int)) (f3265 : Frag) (f3267 : Frag), Ss 35 [⟨.fn (.func 16) ⟨[ptr b3192 0, ptr b3195 0, ptr b3198 0]⟩, ⟨[]⟩⟩] [(4, ptr b3192 0), (5, ptr b3195 0), (6, ptr b3198 0), (7, ptr b3231 0)] H [f3193, f3196, f3199, f3267, f3260, f3265] F a w ∧ (Blk f3260 b3228 ([.int .i64 at_3259, str s3190]) 57) ∧ (Vec 5 (ci .u8) 1 A3262 out3264 c3263 f3265) ∧ (Blk f3267 b3231 ([ptr b3228 0, .slice A3262 out3264.length c3263, .int .i64 limit3191]) 44) ∧ (inflate_Inflate.l3 K s3190 limit3191 k3269 at_3259 out3264).wp kr kpd3209) K ?_ ?_ ?_
      · exact ⟨(0 : Int), f3229, none, 0, ([] : List Int), f3234, f3232, hS.to [5, 4, 3, 1, 2, 0] (by kernel_rfl) ⟨rfl, rfl, rfl, rfl, trivial⟩, h3230, hV3235, hB3233, hM⟩
      · intro a w hI; obtain ⟨_, _, _, _, _, _, _, _, _, _, _, hM⟩ := hI; exact hM
      · intro k3269 a w hI J3282 hJ3282
        obtain ⟨at_3259, f3260, A3262, c3263, out3264, f3265, f3267, hS, hB3261, hV3266, hB3268, hM⟩ := hI
        rw [inflate_Inflate.l3] at hM
        refine wp_seq ?_
        refine wp_seq ?_
        refine wp_region_list ?_
        refine st1 hS (mv rfl) rfl fun a w hS => ?_
        refine s_call hS rfl Tryd.call18 (inflate_reader_block_c hG K (T_inflate_reader.mk (T_bits_Reader.mk (T_bits_place.mk at_3259) s3190) out3264 limit3191) b3231 f3267 b3228 f3260 A3262 c3263 f3265 hB3268 hB3261 hV3266 (hS.st.part 3 [3, 4, 5, 0, 1, 2] (by kernel_rfl)) (wp_bind hM) (fun x3270 at_3271 f3272 A3273 c3274 out3275 f3276 f3277 w hM h3278 h3279 h3280 hst => s_back hS.ev hst.appF rfl fun hS => ?_) (fun v w hk hst => s_pan (then_pan (then_pan (then_pan (blk_pan (then_pan (hpd3208 _ _ _ hk (hS.env2 (e' := [(4, ptr b3192 0), (5, ptr b3195 0), (6, ptr b3198 0)]) ⟨rfl, rfl, rfl, trivial⟩).ev (hst.appF.pick [0, 1, 2] (by kernel_rfl))))))))))
        replace hS : Ss _ _ _ H [f3277, f3272, f3276, f3193, f3196, f3199] F _ _ := hS
        refine st1 hS (un rfl rfl) rfl fun a w hS => ?_
        refine wpList_nil ?_
        refine then_n ?_
        refine s_cond hS rfl hM (fun hb3281 hM => ?_) (fun hb3281 hM => ?_)
        · refine wp_skip ?_
          refine then_n ?_
          refine wp_block ?_
          refine wp_skip ?_
          refine blk_n (then_n ?_)
          exact hJ3282 _ _ ⟨at_3271, f3272, A3273, c3274, out3275, f3276, f3277, hS.to [3, 4, 5, 0, 1, 2] (by kernel_rfl) ⟨rfl, rfl, rfl, rfl, trivial⟩, h3278, h3279, h3280, hM⟩
        · refine wp_exit ?_
          refine then_ex (then_ex (blk_same (then_n ?_)))
          exact hJ3293 _ _ ⟨at_3271, f3272, A3273, c3274, out3275, f3276, f3277, hS.to [3, 4, 5, 0, 1, 2] (by kernel_rfl) ⟨rfl, rfl, rfl, rfl, trivial⟩, h3278, h3279, h3280, hM⟩
    · intro a w hI
      obtain ⟨at_3283, f3284, A3286, c3287, out3288, f3289, f3291, hS, hB3285, hV3290, hB3292, hM⟩ := hI
      rw [inflate_Inflate.j4] at hM
      refine wp_seq ?_
      refine draw_begin (vals := [some (ptr b3231 0), some (ptr b3231 0), some (ptr b3231 1), some (.slice A3286 out3288.length c3287), some (str (out3288.map tob)), some (ptr b3231 0), some (ptr b3231 0), some (ptr b3231 0), some (ptr b3228 0), none, none, none, none, none, none]) hS mixed rfl ?_
      intro l w ho hcl hA hst
      refine phase' (vals := [some (ptr b3231 0), some (ptr b3231 0), some (ptr b3231 1), some (.slice A3286 out3288.length c3287), some (str (out3288.map tob)), some (ptr b3231 0), some (ptr b3231 0), some (ptr b3231 0), some (ptr b3228 0), none, none, none, none, none, none]) 9 [] [0, 1, 2, 3, 4, 5, 6, 7, 8] rfl rfl rfl rfl (by exact ⟨nR rfl rfl rfl rfl rfl (by exact ovE (mv rfl) rfl), nR rfl rfl rfl rfl rfl (by exact ovE (nck rfl) rfl), nR rfl rfl rfl rfl rfl (by exact ovE (fad rfl Tryd.runUnderlying44 rfl Tryd.sizeOf30 rfl) rfl), nR rfl rfl rfl rfl rfl (by exact ovE (ldb 3 rfl hB3292 rfl rfl Tryd.isAgg30) rfl), nR rfl rfl rfl rfl rfl (by exact ovE (cbs rfl Tryd.runUnderlying30 Tryd.runUnderlying5 Tryd.runUnderlying9 (hV3290.rd (i := 5) rfl)) rfl), nR rfl rfl rfl rfl rfl (by exact ovE (mv rfl) rfl), nR rfl rfl rfl rfl rfl (by exact ovE (nck rfl) rfl), nR rfl rfl rfl rfl rfl (by exact ovE (fad rfl Tryd.runUnderlying44 rfl Tryd.sizeOf41 rfl) rfl), nR rfl rfl rfl rfl rfl (by exact ovE (ldb 3 rfl hB3292 rfl rfl Tryd.isAgg41) rfl), trivial⟩) (fun D l a w ho hcl hav hpre hm hE hk hA hst => ?_) ho hcl (fun j hj => (List.not_mem_nil hj).elim) (fun m hm => (List.not_mem_nil hm).elim) List.not_mem_nil hA hst
      have hS := (Ss.mk hE hst).env2 (e' := [(31, ptr b3228 0)]) ⟨rfl, trivial⟩
      refine op_of_nth rfl ?_
      refine s_call hS rfl Tryd.call19 (bits_Reader_At_c hG K (T_bits_Reader.mk (T_bits_place.mk at_3283) s3190) b3228 f3284 hB3285 (hS.st.part 1 [4, 0, 1, 2, 3, 5] (by kernel_rfl)) (wp_bind hM) (fun  w hM  hst => s_back hS.ev hst.appF rfl fun hS => ?_))
      replace hS : Ss _ _ _ H [f3284, f3193, f3196, f3199, f3291, f3289] F _ _ := hS
      refine wpList_nil (then_n ?_)
      have hcl2 := hcl.cons (k := 9) (nth_get rfl) hpre
      have hmust := must_cons (k := 9) hm (chain (k := 9) hcl (nth_get rfl) hpre [(8, 9), (7, 8), (6, 7), (5, 6)] [] rfl (fun _ h => absurd h List.not_mem_nil))
      replace hst := hS.st
      have hav2 := hav.cons (vals' := [some (ptr b3231 0), some (ptr b3231 0), some (ptr b3231 1), some (.slice A3286 out3288.length c3287), some (str (out3288.map tob)), some (ptr b3231 0), some (ptr b3231 0), some (ptr b3231 0), some (ptr b3228 0), some (.int .i64 at_3283), some (.int .i64 (w64 (at_3283 + (7 : Int)))), some (.int .i64 (iquo .i64 (w64 (at_3283 + (7 : Int))) (8 : Int))), none, none, none]) (k := 9) ⟨rfl, rfl, rfl, rfl, rfl, rfl, rfl, rfl, rfl, trivial⟩ rfl
      replace hA := (hA.next hav (subV.get (l' := [some (ptr b3231 0), some (ptr b3231 0), some (ptr b3231 1), some (.slice A3286 out3288.length c3287), some (str (out3288.map tob)), some (ptr b3231 0), some (ptr b3231 0), some (ptr b3231 0), some (ptr b3228 0), some (.int .i64 at_3283), some (.int .i64 (w64 (at_3283 + (7 : Int)))), some (.int .i64 (iquo .i64 (w64 (at_3283 + (7 : Int))) (8 : Int))), none, none, none]) ⟨rfl, rfl, rfl, rfl, rfl, rfl, rfl, rfl, rfl, trivial⟩)).step rfl (nth_get rfl) hk rfl rfl rfl
      clear hm hav
      replace hcl := hcl2
      refine phase' (vals := [some (ptr b3231 0), some (ptr b3231 0), some (ptr b3231 1), some (.slice A3286 out3288.length c3287), some (str (out3288.map tob)), some (ptr b3231 0), some (ptr b3231 0), some (ptr b3231 0), some (ptr b3228 0), some (.int .i64 at_3283), some (.int .i64 (w64 (at_3283 + (7 : Int)))), some (.int .i64 (iquo .i64 (w64 (at_3283 + (7 : Int))) (8 : Int))), none, none, none]) 12 [9, 8, 7, 6, 5] [0, 1, 2, 3, 4, 10, 11] rfl rfl rfl rfl (by exact ⟨nR rfl rfl rfl rfl rfl (by exact ovE (mv rfl) rfl), nR rfl rfl rfl rfl rfl (by exact ovE (nck rfl) rfl), nR rfl rfl rfl rfl rfl (by exact ovE (fad rfl Tryd.runUnderlying44 rfl Tryd.sizeOf30 rfl) rfl), nR rfl rfl rfl rfl rfl (by exact ovE (ldb 4 rfl hB3292 rfl rfl Tryd.isAgg30) rfl), nR rfl rfl rfl rfl rfl (by exact ovE (cbs rfl Tryd.runUnderlying30 Tryd.runUnderlying5 Tryd.runUnderlying9 (hV3290.rd (i := 5) rfl)) rfl), nR rfl rfl rfl rfl rfl (by exact ovE (bin rfl rfl rfl) rfl), nR rfl rfl rfl rfl rfl (by exact ovE (quo rfl rfl rfl) rfl), trivial⟩) (fun D l a w ho hcl hav hpre hm hE hk hA hst => ?_) ho hcl hav2 hmust (hav2.notin rfl) hA hst
      have hS := (Ss.mk hE hst).env2 (e' := [(4, ptr b3192 0), (27, str (out3288.map tob))]) ⟨rfl, rfl, trivial⟩
      refine op_of_nth rfl ?_
      refine sto 1 ([str (out3288.map tob)]) hS rfl rfl hB3194 rfl rfl rfl rfl Tryd.sizeOf9 fun w f3298 hB3299 hS => ?_
      refine wpList_nil (then_n ?_)
      have hcl2 := hcl.cons (k := 12) (nth_get rfl) hpre
      have hmust := must_cons (k := 12) hm (chain (k := 12) hcl (nth_get rfl) hpre [(0, 12), (1, 12), (2, 12), (3, 12), (4, 12), (9, 12), (8, 9), (7, 8), (6, 7), (5, 6)] [] rfl (fun _ h => absurd h List.not_mem_nil))
      replace hst := hS.st
      have hav2 := hav.cons (vals' := [some (ptr b3231 0), some (ptr b3231 0), some (ptr b3231 1), some (.slice A3286 out3288.length c3287), some (str (out3288.map tob)), some (ptr b3231 0), some (ptr b3231 0), some (ptr b3231 0), some (ptr b3228 0), some (.int .i64 at_3283), some (.int .i64 (w64 (at_3283 + (7 : Int)))), some (.int .i64 (iquo .i64 (w64 (at_3283 + (7 : Int))) (8 : Int))), some undef, none, none]) (k := 12) ⟨rfl, rfl, rfl, rfl, rfl, rfl, rfl, rfl, rfl, rfl, rfl, rfl, trivial⟩ rfl
      replace hA := (hA.next hav (subV.get (l' := [some (ptr b3231 0), some (ptr b3231 0), some (ptr b3231 1), some (.slice A3286 out3288.length c3287), some (str (out3288.map tob)), some (ptr b3231 0), some (ptr b3231 0), some (ptr b3231 0), some (ptr b3228 0), some (.int .i64 at_3283), some (.int .i64 (w64 (at_3283 + (7 : Int)))), some (.int .i64 (iquo .i64 (w64 (at_3283 + (7 : Int))) (8 : Int))), some undef, none, none]) ⟨rfl, rfl, rfl, rfl, rfl, rfl, rfl, rfl, rfl, rfl, rfl, rfl, trivial⟩)).stepN (i := 12) (nth_get rfl) rfl
      clear hm hav
      replace hcl := hcl2
      refine phase' (vals := [some (ptr b3231 0), some (ptr b3231 0), some (ptr b3231 1), some (.slice A3286 out3288.length c3287), some (str (out3288.map tob)), some (ptr b3231 0), some (ptr b3231 0), some (ptr b3231 0), some (ptr b3228 0), some (.int .i64 at_3283), some (.int .i64 (w64 (at_3283 + (7 : Int)))), some (.int .i64 (iquo .i64 (w64 (at_3283 + (7 : Int))) (8 : Int))), some undef, none, none]) 13 [12, 0, 1, 2, 3, 4, 9, 8, 7, 6, 5, 9, 8, 7, 6, 5] [10, 11] rfl rfl rfl rfl (by exact ⟨nR rfl rfl rfl rfl rfl (by exact ovE (bin rfl rfl rfl) rfl), nR rfl rfl rfl rfl rfl (by exact ovE (quo rfl rfl rfl) rfl), trivial⟩) (fun D l a w ho hcl hav hpre hm hE hk hA hst => ?_) ho hcl hav2 hmust (hav2.notin rfl) hA hst
      have hS := (Ss.mk hE hst).env2 (e' := [(5, ptr b3195 0), (34, .int .i64 (iquo .i64 (w64 (at_3283 + (7 : Int))) (8 : Int)))]) ⟨rfl, rfl, trivial⟩
      refine op_of_nth rfl ?_
      refine sto 2 ([.int .i64 (iquo .i64 (w64 (at_3283 + (7 : Int))) (8 : Int))]) hS rfl rfl hB3197 rfl rfl rfl rfl Tryd.sizeOf3 fun w f3300 hB3301 hS => ?_
      refine wpList_nil (then_n ?_)
      have hcl2 := hcl.cons (k := 13) (nth_get rfl) hpre
      have hmust := must_cons (k := 13) hm (chain (k := 13) hcl (nth_get rfl) hpre [(0, 13), (1, 13), (2, 13), (3, 13), (4, 13), (5, 13), (6, 13), (7, 13), (8, 13), (9, 13), (10, 13), (11, 13), (12, 13)] [] rfl (fun _ h => absurd h List.not_mem_nil))
      replace hst := hS.st
      have hav2 := hav.cons (vals' := [some (ptr b3231 0), some (ptr b3231 0), some (ptr b3231 1), some (.slice A3286 out3288.length c3287), some (str (out3288.map tob)), some (ptr b3231 0), some (ptr b3231 0), some (ptr b3231 0), some (ptr b3228 0), some (.int .i64 at_3283), some (.int .i64 (w64 (at_3283 + (7 : Int)))), some (.int .i64 (iquo .i64 (w64 (at_3283 + (7 : Int))) (8 : Int))), some undef, some undef, none]) (k := 13) ⟨rfl, rfl, rfl, rfl, rfl, rfl, rfl, rfl, rfl, rfl, rfl, rfl, rfl, trivial⟩ rfl
      replace hA := (hA.next hav (subV.get (l' := [some (ptr b3231 0), some (ptr b3231 0), some (ptr b3231 1), some (.slice A3286 out3288.length c3287), some (str (out3288.map tob)), some (ptr b3231 0), some (ptr b3231 0), some (ptr b3231 0), some (ptr b3228 0), some (.int .i64 at_3283), some (.int .i64 (w64 (at_3283 + (7 : Int)))), some (.int .i64 (iquo .i64 (w64 (at_3283 + (7 : Int))) (8 : Int))), some undef, some undef, none]) ⟨rfl, rfl, rfl, rfl, rfl, rfl, rfl, rfl, rfl, rfl, rfl, rfl, rfl, trivial⟩)).stepN (i := 13) (nth_get rfl) rfl
      clear hm hav
      replace hcl := hcl2
      refine phase' (vals := [some (ptr b3231 0), some (ptr b3231 0), some (ptr b3231 1), some (.slice A3286 out3288.length c3287), some (str (out3288.map tob)), some (ptr b3231 0), some (ptr b3231 0), some (ptr b3231 0), some (ptr b3228 0), some (.int .i64 at_3283), some (.int .i64 (w64 (at_3283 + (7 : Int)))), some (.int .i64 (iquo .i64 (w64 (at_3283 + (7 : Int))) (8 : Int))), some undef, some undef, none]) 14 [13, 0, 1, 2, 3, 4, 5, 6, 7, 8, 9, 10, 11, 12, 12, 0, 1, 2, 3, 4, 9, 8, 7, 6, 5, 9, 8, 7, 6, 5] [] rfl rfl rfl rfl trivial (fun D l a w ho hcl hav hpre hm hE hk hA hst => ?_) ho hcl hav2 hmust (hav2.notin rfl) hA hst
      have hS := (Ss.mk hE hst).env2 (e' := [(6, ptr b3198 0)]) ⟨rfl, trivial⟩
      refine op_of_nth rfl ?_
      refine sto 3 ([.int .i64 (0 : Int)]) hS rfl rfl hB3200 rfl rfl rfl rfl Tryd.sizeOf23 fun w f3302 hB3303 hS => ?_
      refine wpList_nil (then_n ?_)
      have hcl2 := hcl.cons (k := 14) (nth_get rfl) hpre
      have hmust := must_cons (k := 14) hm (chain (k := 14) hcl (nth_get rfl) hpre [(0, 14), (1, 14), (2, 14), (3, 14), (4, 14), (5, 14), (6, 14), (7, 14), (8, 14), (9, 14), (10, 14), (11, 14), (12, 14), (13, 14)] [] rfl (fun _ h => absurd h List.not_mem_nil))
      replace hst := hS.st
      have hav2 := hav.cons (vals' := [some (ptr b3231 0), some (ptr b3231 0), some (ptr b3231 1), some (.slice A3286 out3288.length c3287), some (str (out3288.map tob)), some (ptr b3231 0), some (ptr b3231 0), some (ptr b3231 0), some (ptr b3228 0), some (.int .i64 at_3283), some (.int .i64 (w64 (at_3283 + (7 : Int)))), some (.int .i64 (iquo .i64 (w64 (at_3283 + (7 : Int))) (8 : Int))), some undef, some undef, some undef]) (k := 14) ⟨rfl, rfl, rfl, rfl, rfl, rfl, rfl, rfl, rfl, rfl, rfl, rfl, rfl, rfl, trivial⟩ rfl
      replace hA := (hA.next hav (subV.get (l' := [some (ptr b3231 0), some (ptr b3231 0), some (ptr b3231 1), some (.slice A3286 out3288.length c3287), some (str (out3288.map tob)), some (ptr b3231 0), some (ptr b3231 0), some (ptr b3231 0), some (ptr b3228 0), some (.int .i64 at_3283), some (.int .i64 (w64 (at_3283 + (7 : Int)))), some (.int .i64 (iquo .i64 (w64 (at_3283 + (7 : Int))) (8 : Int))), some undef, some undef, some undef]) ⟨rfl, rfl, rfl, rfl, rfl, rfl, rfl, rfl, rfl, rfl, rfl, rfl, rfl, rfl, trivial⟩)).stepN (i := 14) (nth_get rfl) rfl
      clear hm hav
      replace hcl := hcl2
      refine phaseE (vals := [some (ptr b3231 0), some (ptr b3231 0), some (ptr b3231 1), some (.slice A3286 out3288.length c3287), some (str (out3288.map tob)), some (ptr b3231 0), some (ptr b3231 0), some (ptr b3231 0), some (ptr b3228 0), some (.int .i64 at_3283), some (.int .i64 (w64 (at_3283 + (7 : Int)))), some (.int .i64 (iquo .i64 (w64 (at_3283 + (7 : Int))) (8 : Int))), some undef, some undef, some undef]) [14, 0, 1, 2, 3, 4, 5, 6, 7, 8, 9, 10, 11, 12, 13, 13, 0, 1, 2, 3, 4, 5, 6, 7, 8, 9, 10, 11, 12, 12, 0, 1, 2, 3, 4, 9, 8, 7, 6, 5, 9, 8, 7, 6, 5] [] rfl rfl rfl trivial (fun a w hS => ?_) ho hcl hmust hA hst
      replace hS := hS.env2 (e' := [(4, ptr b3192 0), (5, ptr b3195 0), (6, ptr b3198 0)]) ⟨rfl, rfl, rfl, trivial⟩
      refine then_n ?_
      refine wp_ret ?_
      have hE3304 := hS.ev
      refine s_retD hS Tryd.call16 Tryd.func16 rfl Tryd.ntmps16 rfl rfl rfl fun a w hS => ?_
      refine wp_seq ?_
      refine wp_region_list ?_
      refine st1 hS (mv rfl) rfl fun a w hS => ?_
      refine st1 hS (ifN .neq rfl Tryd.runUnderlying20 rfl) rfl fun a w hS => ?_
      refine wpList_nil ?_
      refine then_n ?_
      refine s_condF hS rfl ?_
      refine wp_skip ?_
      exact d_end hS rfl (leavesRet (vs := [str (out3288.map tob), .int .i64 (iquo .i64 (w64 (at_3283 + (7 : Int))) (8 : Int)), .int .i64 (0 : Int)]) hE3304 hS.st rfl (by exact ⟨rvC 1 rfl hB3299 rfl rfl Tryd.isAgg9, rvC 2 rfl hB3301 rfl rfl Tryd.isAgg3, rvC 3 rfl hB3303 rfl rfl Tryd.isAgg23, trivial⟩) (hret (out3288.map tob) (iquo .i64 (w64 (at_3283 + (7 : Int))) (8 : Int)) (0 : Int) w hM (hS.st.pick [] (by kernel_rfl))))

theorem mortiselaw07_live_c {H : Imm} {F : List Frag} {w : World} {R : Ending → World → Prop} {kr : Bool → Prop} {kp : Value → Prop} (hG : Gl H) (K : Nat)
    (hS : St w H [] F) (hm : (mortiselaw07_live.m K).wp kr kp)
    (hret : ∀ (x3324 : Bool) (w : World), kr x3324 → St w H [] F → R (.returned (.bool x3324)) w) :
    Calls Tryd.prog 9 ⟨[]⟩ w R := by
  refine enter Tryd.func9 rfl Tryd.ntmps9 rfl hS fun a w hS => ?_
  have hM := hm; clear hm
  rw [mortiselaw07_live.m] at hM
  refine wp_seq ?_
  refine wp_region_list ?_
  refine st1 hS (asg rfl) rfl fun a w hS => ?_
  refine wpList_nil ?_
  refine then_n ?_
  refine wp_seq ?_
  refine wp_region_list ?_
  refine s_call hS rfl Tryd.call10 (inflate_Inflate_c hG K ([3, 0] : List UInt8) (10 : Int) (hS.st.part 0 [] (by kernel_rfl)) (wp_bind hM) (fun x3311 x3312 x3313 w hM  hst => s_back hS.ev hst.appF rfl fun hS => ?_))
  replace hS : Ss _ _ _ H [] F _ _ := hS
  refine st1 hS (mv rfl) rfl fun a w hS => ?_
  refine st1 hS (ex rfl rfl) rfl fun a w hS => ?_
  refine st1 hS (ex rfl rfl) rfl fun a w hS => ?_
  refine st1 hS (ex rfl rfl) rfl fun a w hS => ?_
  refine st1 hS (asg rfl) rfl fun a w hS => ?_
  refine st1 hS (asg rfl) rfl fun a w hS => ?_
  refine st1 hS (asg rfl) rfl fun a w hS => ?_
  refine wpList_nil ?_
  refine then_n ?_
  refine wp_seq ?_
  refine wp_region_list ?_
  refine s_call hS rfl Tryd.call10 (inflate_Inflate_c hG K ([1, 1, 0, 254, 255, 97, 122] : List UInt8) (10 : Int) (hS.st.part 0 [] (by kernel_rfl)) (wp_bind hM) (fun x3314 x3315 x3316 w hM  hst => s_back hS.ev hst.appF rfl fun hS => ?_))
  replace hS : Ss _ _ _ H [] F _ _ := hS
  refine st1 hS (mv rfl) rfl fun a w hS => ?_
  refine st1 hS (ex rfl rfl) rfl fun a w hS => ?_
  refine st1 hS (ex rfl rfl) rfl fun a w hS => ?_
  refine st1 hS (ex rfl rfl) rfl fun a w hS => ?_
  refine st1 hS (asg rfl) rfl fun a w hS => ?_
  refine st1 hS (asg rfl) rfl fun a w hS => ?_
  refine st1 hS (asg rfl) rfl fun a w hS => ?_
  refine wpList_nil ?_
  refine then_n ?_
  refine wp_seq ?_
  refine wp_region_list ?_
  refine s_call hS rfl Tryd.call10 (inflate_Inflate_c hG K ([7] : List UInt8) (10 : Int) (hS.st.part 0 [] (by kernel_rfl)) (wp_bind hM) (fun x3317 x3318 x3319 w hM  hst => s_back hS.ev hst.appF rfl fun hS => ?_))
  replace hS : Ss _ _ _ H [] F _ _ := hS
  refine st1 hS (mv rfl) rfl fun a w hS => ?_
  refine st1 hS (ex rfl rfl) rfl fun a w hS => ?_
  refine st1 hS (ex rfl rfl) rfl fun a w hS => ?_
  refine st1 hS (ex rfl rfl) rfl fun a w hS => ?_
  refine st1 hS (asg rfl) rfl fun a w hS => ?_
  refine st1 hS (asg rfl) rfl fun a w hS => ?_
  refine st1 hS (asg rfl) rfl fun a w hS => ?_
  refine wpList_nil ?_
  refine then_n ?_
  refine wp_seq ?_
  refine wp_region_list ?_
  refine s_call hS rfl Tryd.call10 (inflate_Inflate_c hG K ([1, 1, 0, 254, 255, 97] : List UInt8) (0 : Int) (hS.st.part 0 [] (by kernel_rfl)) (wp_bind hM) (fun x3320 x3321 x3322 w hM  hst => s_back hS.ev hst.appF rfl fun hS => ?_))
  replace hS : Ss _ _ _ H [] F _ _ := hS
  refine st1 hS (mv rfl) rfl fun a w hS => ?_
  refine st1 hS (ex rfl rfl) rfl fun a w hS => ?_
  refine st1 hS (ex rfl rfl) rfl fun a w hS => ?_
  refine st1 hS (ex rfl rfl) rfl fun a w hS => ?_
  refine st1 hS (asg rfl) rfl fun a w hS => ?_
  refine st1 hS (asg rfl) rfl fun a w hS => ?_
  refine st1 hS (asg rfl) rfl fun a w hS => ?_
  refine wpList_nil ?_
  refine then_n ?_
  refine wp_seq ?_
  refine wp_region_list ?_
  refine st1 hS (mv rfl) rfl fun a w hS => ?_
  refine st1 hS (bins rfl rfl rfl) rfl fun a w hS => ?_
  refine st1 hS (mv rfl) rfl fun a w hS => ?_
  refine g_op 2 true 35 (b := (x3311 == ([] : List UInt8))) (r := (x3312 == (2 : Int))) hS rfl rfl rfl rfl rfl rfl rfl (fun hb a w hS K hK => ?_) rfl fun a w hS => ?_
  · refine st1g hS rfl rfl rfl hb (mv rfl) rfl fun a w hS => ?_
    refine st1g hS rfl rfl rfl hb (bin rfl rfl rfl) rfl fun a w hS => ?_
    exact wpList_nil (hK _ _ (hS.up 2 rfl rfl))
  refine st1 hS (mv rfl) rfl fun a w hS => ?_
  refine g_op 2 true 39 (b := ((x3311 == ([] : List UInt8)) && (x3312 == (2 : Int)))) (r := (x3313 == (0 : Int))) hS rfl rfl rfl rfl rfl rfl rfl (fun hb a w hS K hK => ?_) rfl fun a w hS => ?_
  · refine st1g hS rfl rfl rfl hb (mv rfl) rfl fun a w hS => ?_
    refine st1g hS rfl rfl rfl hb (bin rfl rfl rfl) rfl fun a w hS => ?_
    exact wpList_nil (hK _ _ (hS.up 2 rfl rfl))
  refine st1 hS (mv rfl) rfl fun a w hS => ?_
  refine g_op 2 true 43 (b := (((x3311 == ([] : List UInt8)) && (x3312 == (2 : Int))) && (x3313 == (0 : Int)))) (r := (x3314 == ([97] : List UInt8))) hS rfl rfl rfl rfl rfl rfl rfl (fun hb a w hS K hK => ?_) rfl fun a w hS => ?_
  · refine st1g hS rfl rfl rfl hb (mv rfl) rfl fun a w hS => ?_
    refine st1g hS rfl rfl rfl hb (bins rfl rfl rfl) rfl fun a w hS => ?_
    exact wpList_nil (hK _ _ (hS.up 2 rfl rfl))
  refine st1 hS (mv rfl) rfl fun a w hS => ?_
  refine g_op 2 true 47 (b := ((((x3311 == ([] : List UInt8)) && (x3312 == (2 : Int))) && (x3313 == (0 : Int))) && (x3314 == ([97] : List UInt8)))) (r := (x3315 == (6 : Int))) hS rfl rfl rfl rfl rfl rfl rfl (fun hb a w hS K hK => ?_) rfl fun a w hS => ?_
  · refine st1g hS rfl rfl rfl hb (mv rfl) rfl fun a w hS => ?_
    refine st1g hS rfl rfl rfl hb (bin rfl rfl rfl) rfl fun a w hS => ?_
    exact wpList_nil (hK _ _ (hS.up 2 rfl rfl))
  refine st1 hS (mv rfl) rfl fun a w hS => ?_
  refine g_op 2 true 51 (b := (((((x3311 == ([] : List UInt8)) && (x3312 == (2 : Int))) && (x3313 == (0 : Int))) && (x3314 == ([97] : List UInt8))) && (x3315 == (6 : Int)))) (r := (x3316 == (0 : Int))) hS rfl rfl rfl rfl rfl rfl rfl (fun hb a w hS K hK => ?_) rfl fun a w hS => ?_
  · refine st1g hS rfl rfl rfl hb (mv rfl) rfl fun a w hS => ?_
    refine st1g hS rfl rfl rfl hb (bin rfl rfl rfl) rfl fun a w hS => ?_
    exact wpList_nil (hK _ _ (hS.up 2 rfl rfl))
  refine st1 hS (mv rfl) rfl fun a w hS => ?_
  refine g_op 2 true 55 (b := ((((((x3311 == ([] : List UInt8)) && (x3312 == (2 : Int))) && (x3313 == (0 : Int))) && (x3314 == ([97] : List UInt8))) && (x3315 == (6 : Int))) && (x3316 == (0 : Int)))) (r := (x3319 == (3 : Int))) hS rfl rfl rfl rfl rfl rfl rfl (fun hb a w hS K hK => ?_) rfl fun a w hS => ?_
  · refine st1g hS rfl rfl rfl hb (mv rfl) rfl fun a w hS => ?_
    refine st1g hS rfl rfl rfl hb (bin rfl rfl rfl) rfl fun a w hS => ?_
    exact wpList_nil (hK _ _ (hS.up 2 rfl rfl))
  refine st1 hS (mv rfl) rfl fun a w hS => ?_
  refine g_op 2 true 59 (b := (((((((x3311 == ([] : List UInt8)) && (x3312 == (2 : Int))) && (x3313 == (0 : Int))) && (x3314 == ([97] : List UInt8))) && (x3315 == (6 : Int))) && (x3316 == (0 : Int))) && (x3319 == (3 : Int)))) (r := (x3322 == (11 : Int))) hS rfl rfl rfl rfl rfl rfl rfl (fun hb a w hS K hK => ?_) rfl fun a w hS => ?_
  · refine st1g hS rfl rfl rfl hb (mv rfl) rfl fun a w hS => ?_
    refine st1g hS rfl rfl rfl hb (bin rfl rfl rfl) rfl fun a w hS => ?_
    exact wpList_nil (hK _ _ (hS.up 2 rfl rfl))
  refine st1x (v := Value.bool) hS (asg rfl) rfl fun v3323 a w hz hS => ?_
  have hM := lt_to hz hM; clear hz
  refine wpList_nil ?_
  refine then_n ?_
  refine wp_ret ?_
  exact s_ret (rs := [0]) hS rfl rfl (hret v3323 w hM (hS.st.pick [] (by kernel_rfl)))

theorem mortiselaw07_InflateStored_c {H : Imm} {F : List Frag} {w : World} {R : Ending → World → Prop} {kr : Bool → Prop} {kp : Value → Prop} (hG : Gl H) (K : Nat) (s3308 : List UInt8) (size3309 : Int)
    (hS : St w H [] F) (hm : (mortiselaw07_InflateStored.m K s3308 size3309).wp kr kp)
    (hret : ∀ (x3457 : Bool) (w : World), kr x3457 → St w H [] F → R (.returned (.bool x3457)) w) :
    Calls Tryd.prog 7 ⟨[str s3308, .int .i64 size3309]⟩ w R := by
  refine enter Tryd.func7 rfl Tryd.ntmps7 rfl hS fun a w hS => ?_
  have hM := hm; clear hm
  rw [mortiselaw07_InflateStored.m] at hM
  refine wp_seq ?_
  refine wp_region_list ?_
  refine st1 hS (asg rfl) rfl fun a w hS => ?_
  refine wpList_nil ?_
  refine then_n ?_
  refine wp_seq ?_
  refine wp_seq ?_
  refine wp_region_list ?_
  refine st1 hS (mv rfl) rfl fun a w hS => ?_
  refine st1 hS (lenS rfl Tryd.runUnderlying9) rfl fun a w hS => ?_
  refine st1 hS (bin rfl rfl rfl) rfl fun a w hS => ?_
  refine st1 hS (mv rfl) rfl fun a w hS => ?_
  refine g_op 2 false 16 (b := (decide ((s3308.length : Int) > (3000 : Int)))) (r := (decide (size3309 < (1 : Int)))) hS rfl rfl rfl rfl rfl rfl rfl (fun hb a w hS K hK => ?_) rfl fun a w hS => ?_
  · refine st1g hS rfl rfl rfl hb (mv rfl) rfl fun a w hS => ?_
    refine st1g hS rfl rfl rfl hb (bin rfl rfl rfl) rfl fun a w hS => ?_
    exact wpList_nil (hK _ _ (hS.up 2 rfl rfl))
  refine st1 hS (mv rfl) rfl fun a w hS => ?_
  refine g_op 2 false 20 (b := ((decide ((s3308.length : Int) > (3000 : Int))) || (decide (size3309 < (1 : Int))))) (r := (decide (size3309 > (65535 : Int)))) hS rfl rfl rfl rfl rfl rfl rfl (fun hb a w hS K hK => ?_) rfl fun a w hS => ?_
  · refine st1g hS rfl rfl rfl hb (mv rfl) rfl fun a w hS => ?_
    refine st1g hS rfl rfl rfl hb (bin rfl rfl rfl) rfl fun a w hS => ?_
    exact wpList_nil (hK _ _ (hS.up 2 rfl rfl))
  refine wpList_nil ?_
  refine then_n ?_
  refine s_cond hS rfl hM (fun hb3310 hM => ?_) (fun hb3310 hM => ?_)
  · refine wp_seq ?_
    refine wp_region_list ?_
    refine s_call hS rfl Tryd.call9 (mortiselaw07_live_c hG K  (hS.st.part 0 [] (by kernel_rfl)) (wp_bind hM) (fun x3325 w hM  hst => s_back hS.ev hst.appF rfl fun hS => ?_))
    replace hS : Ss _ _ _ H [] F _ _ := hS
    refine st1 hS (asg rfl) rfl fun a w hS => ?_
    refine wpList_nil ?_
    refine then_n ?_
    refine wp_ret ?_
    refine then_ret ?_
    exact s_ret (rs := [4]) hS rfl rfl (hret x3325 w hM (hS.st.pick [] (by kernel_rfl)))
  · refine wp_skip ?_
    refine then_n ?_
    refine wp_seq ?_
    refine wp_region_list ?_
    refine st1 hS (bld ([.slice none 0 0]) [(0, 1)] Tryd.zeroValue32 Tryd.runUnderlying32 (by intro w; simp [Tryd.sizeOf30]) rfl rfl) rfl fun a w hS => ?_
    refine bx ([.slice none 0 0]) hS rfl rfl rfl fun w b3326 f3327 hB3328 hS => ?_
    obtain ⟨f3329, hV3330, hS⟩ := hS.nilV 5 (ci .u8) 1
    refine st1 hS (asg rfl) rfl fun a w hS => ?_
    refine wpList_nil ?_
    refine then_n ?_
    refine wp_seq ?_
    refine wp_region_list ?_
    refine st1 hS (asg rfl) rfl fun a w hS => ?_
    refine wpList_nil ?_
    refine then_n ?_
    refine seq_joinJ (fun a w => ∃ (A3441 : Option Addr) (c3442 : Nat) (b_3443 : (List Int)) (f3444 : Frag) (f3446 : Frag), Ss 92 [] [(0, str s3308), (5, ptr b3326 0)] H [f3446, f3444] F a w ∧ (Vec 5 (ci .u8) 1 A3441 b_3443 c3442 f3444) ∧ (Blk f3446 b3326 ([.slice A3441 b_3443.length c3442]) 32) ∧ (mortiselaw07_InflateStored.j3 K s3308 b_3443).wp kr kp) (fun J3448 hJ3448 => ?_) ?_
    · refine wp_block ?_
      refine s_loopJ (fun k3394 a w => ∃ (A3386 : Option Addr) (c3387 : Nat) (b_3388 : (List Int)) (f3389 : Frag) (f3391 : Frag) (at_3393 : Int), Ss 92 [] [(0, str s3308), (1, .int .i64 size3309), (5, ptr b3326 0), (6, .int .i64 at_3393)] H [f3391, f3389] F a w ∧ (Vec 5 (ci .u8) 1 A3386 b_3388 c3387 f3389) ∧ (Blk f3391 b3326 ([.slice A3386 b_3388.length c3387]) 32) ∧ (mortiselaw07_InflateStored.l1 K s3308 size3309 k3394 b_3388 at_3393).wp kr kp) K ?_ ?_ ?_
      · exact ⟨none, 0, ([] : List Int), f3329, f3327, (0 : Int), hS.to [1, 0] (by kernel_rfl) ⟨rfl, rfl, rfl, rfl, trivial⟩, hV3330, hB3328, hM⟩
      · intro a w hI; obtain ⟨_, _, _, _, _, _, _, _, _, hM⟩ := hI; exact hM
      · intro k3394 a w hI J3440 hJ3440
        obtain ⟨A3386, c3387, b_3388, f3389, f3391, at_3393, hS, hV3390, hB3392, hM⟩ := hI
        rw [mortiselaw07_InflateStored.l1] at hM
        refine wp_block ?_
        refine wp_seq ?_
        refine wp_region_list ?_
        refine st1 hS (mv rfl) rfl fun a w hS => ?_
        refine st1 hS (mv rfl) rfl fun a w hS => ?_
        refine st1 hS (lenS rfl Tryd.runUnderlying9) rfl fun a w hS => ?_
        refine st1 hS (mv rfl) rfl fun a w hS => ?_
        refine st1 hS (bin rfl rfl rfl) rfl fun a w hS => ?_
        refine st1 hS (minI rfl rfl) rfl fun a w hS => ?_
        refine st1x (v := Value.int .i64) hS (asg rfl) rfl fun n_3395 a w hz hS => ?_
        have hM := lt_to hz hM; clear hz
        refine wpList_nil ?_
        refine then_n ?_
        refine wp_seq ?_
        refine wp_region_list ?_
        refine st1 hS (asg rfl) rfl fun a w hS => ?_
        refine wpList_nil ?_
        refine then_n ?_
        refine seq_joinJ (fun a w => ∃ (last3397 : Int), Ss 92 [] [(0, str s3308), (1, .int .i64 size3309), (5, ptr b3326 0), (6, .int .i64 at_3393), (7, .int .i64 n_3395), (8, .int .u32 last3397)] H [f3391, f3389] F a w ∧ (mortiselaw07_InflateStored.j2 K (mortiselaw07_InflateStored.l1 K s3308 size3309 k3394) s3308 b_3388 at_3393 n_3395 last3397).wp kr kp) (fun J3398 hJ3398 => ?_) ?_
        · refine wp_seq ?_
          refine wp_region_list ?_
          refine st1 hS (mv rfl) rfl fun a w hS => ?_
          refine st1 hS (mv rfl) rfl fun a w hS => ?_
          refine st1 hS (bin rfl rfl rfl) rfl fun a w hS => ?_
          refine st1 hS (mv rfl) rfl fun a w hS => ?_
          refine st1 hS (lenS rfl Tryd.runUnderlying9) rfl fun a w hS => ?_
          refine st1 hS (bin rfl rfl rfl) rfl fun a w hS => ?_
          refine wpList_nil ?_
          refine then_n ?_
          refine s_cond hS rfl hM (fun hb3396 hM => ?_) (fun hb3396 hM => ?_)
          · refine wp_region_list ?_
            refine st1 hS (asg rfl) rfl fun a w hS => ?_
            refine wpList_nil ?_
            refine then_n ?_
            exact hJ3398 _ _ ⟨(1 : Int), hS.to [0, 1] (by kernel_rfl) ⟨rfl, rfl, rfl, rfl, rfl, rfl, trivial⟩, hM⟩
          · refine wp_skip ?_
            refine then_n ?_
            exact hJ3398 _ _ ⟨(0 : Int), hS.to [0, 1] (by kernel_rfl) ⟨rfl, rfl, rfl, rfl, rfl, rfl, trivial⟩, hM⟩
        · intro a w hI
          obtain ⟨last3397, hS, hM⟩ := hI
          rw [mortiselaw07_InflateStored.j2] at hM
          refine wp_seq ?_
          refine wp_region_list ?_
          refine st1 hS (mv rfl) rfl fun a w hS => ?_
          refine st1 hS (mv rfl) rfl fun a w hS => ?_
          refine s_call hS rfl Tryd.call12 (mortiseref05_Writer_Put_c hG K (T_mortiseref05_Writer.mk b_3388) last3397 (3 : Int) b3326 f3391 A3386 c3387 f3389 hB3392 hV3390 (hS.st.part 2 [0, 1] (by kernel_rfl)) (wp_bind hM) (fun x3399 A3400 c3401 b_3402 f3403 f3404 w hM h3405 h3406 hst => s_back hS.ev hst.appF rfl fun hS => ?_))
          replace hS : Ss _ _ _ H [f3404, f3403] F _ _ := hS
          refine wpList_nil ?_
          refine then_n ?_
          refine wp_seq ?_
          refine wp_region_list ?_
          refine st1 hS (mv rfl) rfl fun a w hS => ?_
          refine s_call hS rfl Tryd.call13 (mortiseref05_Writer_Align_c hG K (T_mortiseref05_Writer.mk b_3402) b3326 f3404 A3400 c3401 f3403 h3406 h3405 (hS.st.part 2 [0, 1] (by kernel_rfl)) (wp_bind hM) (fun A3407 c3408 b_3409 f3410 f3411 w hM h3412 h3413 hst => s_back hS.ev hst.appF rfl fun hS => ?_))
          replace hS : Ss _ _ _ H [f3411, f3410] F _ _ := hS
          refine wpList_nil ?_
          refine then_n ?_
          refine wp_seq ?_
          refine wp_region_list ?_
          refine st1 hS (mv rfl) rfl fun a w hS => ?_
          refine st1 hS (mv rfl) rfl fun a w hS => ?_
          refine st1 hS (cvi rfl Tryd.runUnderlying3 Tryd.runUnderlying33) rfl fun a w hS => ?_
          refine s_call hS rfl Tryd.call12 (mortiseref05_Writer_Put_c hG K (T_mortiseref05_Writer.mk b_3409) (wr .u32 n_3395) (16 : Int) b3326 f3411 A3407 c3408 f3410 h3413 h3412 (hS.st.part 2 [0, 1] (by kernel_rfl)) (wp_bind hM) (fun x3414 A3415 c3416 b_3417 f3418 f3419 w hM h3420 h3421 hst => s_back hS.ev hst.appF rfl fun hS => ?_))
          replace hS : Ss _ _ _ H [f3419, f3418] F _ _ := hS
          refine wpList_nil ?_
          refine then_n ?_
          refine wp_seq ?_
          refine wp_region_list ?_
          refine st1 hS (mv rfl) rfl fun a w hS => ?_
          refine st1 hS (mv rfl) rfl fun a w hS => ?_
          refine st1 hS (bin rfl rfl rfl) rfl fun a w hS => ?_
          refine st1 hS (cvi rfl Tryd.runUnderlying3 Tryd.runUnderlying33) rfl fun a w hS => ?_
          refine s_call hS rfl Tryd.call12 (mortiseref05_Writer_Put_c hG K (T_mortiseref05_Writer.mk b_3417) (wr .u32 (w64 ((65535 : Int) - n_3395))) (16 : Int) b3326 f3419 A3415 c3416 f3418 h3421 h3420 (hS.st.part 2 [0, 1] (by kernel_rfl)) (wp_bind hM) (fun x3422 A3423 c3424 b_3425 f3426 f3427 w hM h3428 h3429 hst => s_back hS.ev hst.appF rfl fun hS => ?_))
          replace hS : Ss _ _ _ H [f3427, f3426] F _ _ := hS
          refine wpList_nil ?_
          refine then_n ?_
          refine wp_seq ?_
          refine wp_region_list ?_
          refine st1 hS (mv rfl) rfl fun a w hS => ?_
          refine st1 hS (mv rfl) rfl fun a w hS => ?_
          refine st1 hS (mv rfl) rfl fun a w hS => ?_
          refine st1 hS (mv rfl) rfl fun a w hS => ?_
          refine st1 hS (mv rfl) rfl fun a w hS => ?_
          refine st1 hS (bin rfl rfl rfl) rfl fun a w hS => ?_
          obtain ⟨hk3430, hM⟩ := wp_chk hM
          refine st1 hS (slS rfl Tryd.runUnderlying9 (loS rfl) (hiS rfl) hk3430) rfl fun a w hS => ?_
          refine s_call hS rfl Tryd.call14 (mortiseref05_Writer_Add_c hG K (T_mortiseref05_Writer.mk b_3425) (sub s3308 at_3393 (w64 (at_3393 + n_3395))) b3326 f3427 A3423 c3424 f3426 h3429 h3428 (hS.st.part 2 [0, 1] (by kernel_rfl)) (wp_bind hM) (fun A3431 c3432 b_3433 f3434 f3435 w hM h3436 h3437 hst => s_back hS.ev hst.appF rfl fun hS => ?_))
          replace hS : Ss _ _ _ H [f3435, f3434] F _ _ := hS
          refine wpList_nil ?_
          refine then_n ?_
          refine wp_seq ?_
          refine wp_region_list ?_
          refine st1 hS (mv rfl) rfl fun a w hS => ?_
          refine st1 hS (mv rfl) rfl fun a w hS => ?_
          refine st1 hS (bin rfl rfl rfl) rfl fun a w hS => ?_
          refine st1x (v := Value.int .i64) hS (asg rfl) rfl fun at_3438 a w hz hS => ?_
          have hM := lt_to hz hM; clear hz
          refine wpList_nil ?_
          refine then_n ?_
          refine wp_seq ?_
          refine wp_region_list ?_
          refine st1 hS (mv rfl) rfl fun a w hS => ?_
          refine st1 hS (bin rfl rfl rfl) rfl fun a w hS => ?_
          refine wpList_nil ?_
          refine then_n ?_
          refine s_cond hS rfl hM (fun hb3439 hM => ?_) (fun hb3439 hM => ?_)
          · refine wp_exit ?_
            refine blk_ne rfl (then_ex (blk_same (then_n ?_)))
            exact hJ3448 _ _ ⟨A3431, c3432, b_3433, f3434, f3435, hS.to [0, 1] (by kernel_rfl) ⟨rfl, rfl, trivial⟩, h3436, h3437, hM⟩
          · refine wp_skip ?_
            refine blk_n (then_n ?_)
            exact hJ3440 _ _ ⟨A3431, c3432, b_3433, f3434, f3435, at_3438, hS.to [0, 1] (by kernel_rfl) ⟨rfl, rfl, rfl, rfl, trivial⟩, h3436, h3437, hM⟩
    · intro a w hI
      obtain ⟨A3441, c3442, b_3443, f3444, f3446, hS, hV3445, hB3447, hM⟩ := hI
      rw [mortiselaw07_InflateStored.j3] at hM
      refine wp_seq ?_
      refine wp_region_list ?_
      refine st1 hS (mv rfl) rfl fun a w hS => ?_
      refine s_call hS rfl Tryd.call15 (mortiseref05_Writer_String_c hG K (T_mortiseref05_Writer.mk b_3443) b3326 f3446 A3441 c3442 f3444 hB3447 hV3445 (hS.st.part 2 [0, 1] (by kernel_rfl)) (wp_bind hM) (fun x3449 w hM  hst => s_back hS.ev hst.appF rfl fun hS => ?_))
      replace hS : Ss _ _ _ H [f3446, f3444] F _ _ := hS
      refine st1 hS (asg rfl) rfl fun a w hS => ?_
      refine wpList_nil ?_
      refine then_n ?_
      refine wp_seq ?_
      refine wp_region_list ?_
      refine st1 hS (mv rfl) rfl fun a w hS => ?_
      refine st1 hS (mv rfl) rfl fun a w hS => ?_
      refine st1 hS (lenS rfl Tryd.runUnderlying9) rfl fun a w hS => ?_
      refine s_call hS rfl Tryd.call10 (inflate_Inflate_c hG K x3449 (s3308.length : Int) (hS.st.part 0 [0, 1] (by kernel_rfl)) (wp_bind hM) (fun x3450 x3451 x3452 w hM  hst => s_back hS.ev hst.appF rfl fun hS => ?_))
      replace hS : Ss _ _ _ H [f3446, f3444] F _ _ := hS
      refine st1 hS (mv rfl) rfl fun a w hS => ?_
      refine st1 hS (ex rfl rfl) rfl fun a w hS => ?_
      refine st1 hS (ex rfl rfl) rfl fun a w hS => ?_
      refine st1 hS (ex rfl rfl) rfl fun a w hS => ?_
      refine st1 hS (asg rfl) rfl fun a w hS => ?_
      refine st1 hS (asg rfl) rfl fun a w hS => ?_
      refine st1 hS (asg rfl) rfl fun a w hS => ?_
      refine wpList_nil ?_
      refine then_n ?_
      refine wp_seq ?_
      refine wp_region_list ?_
      refine st1 hS (mv rfl) rfl fun a w hS => ?_
      refine st1 hS (mv rfl) rfl fun a w hS => ?_
      refine st1 hS (bins rfl rfl rfl) rfl fun a w hS => ?_
      refine st1 hS (mv rfl) rfl fun a w hS => ?_
      refine g_op 4 true 79 (b := (x3450 == s3308)) (r := (x3451 == (x3449.length : Int))) hS rfl rfl rfl rfl rfl rfl rfl (fun hb a w hS K hK => ?_) rfl fun a w hS => ?_
      · refine st1g hS rfl rfl rfl hb (mv rfl) rfl fun a w hS => ?_
        refine st1g hS rfl rfl rfl hb (mv rfl) rfl fun a w hS => ?_
        refine st1g hS rfl rfl rfl hb (lenS rfl Tryd.runUnderlying9) rfl fun a w hS => ?_
        refine st1g hS rfl rfl rfl hb (bin rfl rfl rfl) rfl fun a w hS => ?_
        exact wpList_nil (hK _ _ (hS.up 4 rfl rfl))
      refine st1 hS (mv rfl) rfl fun a w hS => ?_
      refine g_op 2 true 85 (b := ((x3450 == s3308) && (x3451 == (x3449.length : Int)))) (r := (x3452 == (0 : Int))) hS rfl rfl rfl rfl rfl rfl rfl (fun hb a w hS K hK => ?_) rfl fun a w hS => ?_
      · refine st1g hS rfl rfl rfl hb (mv rfl) rfl fun a w hS => ?_
        refine st1g hS rfl rfl rfl hb (bin rfl rfl rfl) rfl fun a w hS => ?_
        exact wpList_nil (hK _ _ (hS.up 2 rfl rfl))
      refine st1 hS (mv rfl) rfl fun a w hS => ?_
      refine seg_cutJ (fun a w => ∃ (v3455 : Bool), Ss 92 [] [(91, .bool v3455)] H [] F a w ∧ (mortiselaw07_InflateStored.j4 K v3455).wp kr kp) 2 (fun J3456 hJ3456 => ?_) ?_
      · refine ifB (b := (((x3450 == s3308) && (x3451 == (x3449.length : Int))) && (x3452 == (0 : Int)))) hM (fun hb3453 hM => ?_) (fun hb3453 hM => ?_)
        · replace hS := hS.re 88 (v := .bool true) rfl (congrArg Value.bool hb3453)
          replace hS := hS.re 89 (v := .bool true) rfl (congrArg Value.bool hb3453)
          refine unguard hS rfl rfl rfl rfl ?_
          refine s_call hS rfl Tryd.call9 (mortiselaw07_live_c hG K  (hS.st.part 0 [0, 1] (by kernel_rfl)) (wp_bind hM) (fun x3454 w hM  hst => s_back hS.ev hst.appF rfl fun hS => ?_))
          replace hS : Ss _ _ _ H [f3446, f3444] F _ _ := hS
          refine st1 hS (pk rfl rfl rfl) rfl fun a w hS => ?_
          refine wpList_nil ?_
          refine then_n ?_
          exact hJ3456 _ _ ⟨x3454, hS.to [] (by kernel_rfl) ⟨rfl, trivial⟩, hM⟩
        · replace hS := hS.re 88 (v := .bool false) rfl (congrArg Value.bool hb3453)
          replace hS := hS.re 89 (v := .bool false) rfl (congrArg Value.bool hb3453)
          refine skips 1 hS rfl fun a w hS => ?_
          refine st1 hS (pk rfl rfl rfl) rfl fun a w hS => ?_
          refine wpList_nil ?_
          refine then_n ?_
          exact hJ3456 _ _ ⟨false, hS.to [] (by kernel_rfl) ⟨rfl, trivial⟩, hM⟩
      · intro a w hI
        obtain ⟨v3455, hS, hM⟩ := hI
        rw [mortiselaw07_InflateStored.j4] at hM
        refine st1 hS (asg rfl) rfl fun a w hS => ?_
        refine wpList_nil ?_
        refine then_n ?_
        refine wp_ret ?_
        exact s_ret (rs := [4]) hS rfl rfl (hret v3455 w hM (hS.st.pick [] (by kernel_rfl)))

theorem mortiselaw07_InflateReads_c {H : Imm} {F : List Frag} {w : World} {R : Ending → World → Prop} {kr : Bool → Prop} {kp : Value → Prop} (hG : Gl H) (K : Nat) (s3458 : List UInt8) (limit3459 : Int)
    (hS : St w H [] F) (hm : (mortiselaw07_InflateReads.m K s3458 limit3459).wp kr kp)
    (hret : ∀ (x3472 : Bool) (w : World), kr x3472 → St w H [] F → R (.returned (.bool x3472)) w) :
    Calls Tryd.prog 3 ⟨[str s3458, .int .i64 limit3459]⟩ w R := by
  refine enter Tryd.func3 rfl Tryd.ntmps3 rfl hS fun a w hS => ?_
  have hM := hm; clear hm
  rw [mortiselaw07_InflateReads.m] at hM
  refine wp_seq ?_
  refine wp_region_list ?_
  refine st1 hS (asg rfl) rfl fun a w hS => ?_
  refine wpList_nil ?_
  refine then_n ?_
  refine wp_seq ?_
  refine wp_seq ?_
  refine wp_region_list ?_
  refine st1 hS (mv rfl) rfl fun a w hS => ?_
  refine st1 hS (lenS rfl Tryd.runUnderlying9) rfl fun a w hS => ?_
  refine st1 hS (bin rfl rfl rfl) rfl fun a w hS => ?_
  refine st1 hS (mv rfl) rfl fun a w hS => ?_
  refine g_op 2 false 14 (b := (decide ((s3458.length : Int) > (3000 : Int)))) (r := (decide (limit3459 > (40000 : Int)))) hS rfl rfl rfl rfl rfl rfl rfl (fun hb a w hS K hK => ?_) rfl fun a w hS => ?_
  · refine st1g hS rfl rfl rfl hb (mv rfl) rfl fun a w hS => ?_
    refine st1g hS rfl rfl rfl hb (bin rfl rfl rfl) rfl fun a w hS => ?_
    exact wpList_nil (hK _ _ (hS.up 2 rfl rfl))
  refine wpList_nil ?_
  refine then_n ?_
  refine s_cond hS rfl hM (fun hb3460 hM => ?_) (fun hb3460 hM => ?_)
  · refine wp_seq ?_
    refine wp_region_list ?_
    refine s_call hS rfl Tryd.call9 (mortiselaw07_live_c hG K  (hS.st.part 0 [] (by kernel_rfl)) (wp_bind hM) (fun x3461 w hM  hst => s_back hS.ev hst.appF rfl fun hS => ?_))
    replace hS : Ss _ _ _ H [] F _ _ := hS
    refine st1 hS (asg rfl) rfl fun a w hS => ?_
    refine wpList_nil ?_
    refine then_n ?_
    refine wp_ret ?_
    refine then_ret ?_
    exact s_ret (rs := [4]) hS rfl rfl (hret x3461 w hM (hS.st.pick [] (by kernel_rfl)))
  · refine wp_skip ?_
    refine then_n ?_
    refine wp_seq ?_
    refine wp_region_list ?_
    refine st1 hS (mv rfl) rfl fun a w hS => ?_
    refine st1 hS (mv rfl) rfl fun a w hS => ?_
    refine s_call hS rfl Tryd.call10 (inflate_Inflate_c hG K s3458 limit3459 (hS.st.part 0 [] (by kernel_rfl)) (wp_bind hM) (fun x3462 x3463 x3464 w hM  hst => s_back hS.ev hst.appF rfl fun hS => ?_))
    replace hS : Ss _ _ _ H [] F _ _ := hS
    refine st1 hS (mv rfl) rfl fun a w hS => ?_
    refine st1 hS (ex rfl rfl) rfl fun a w hS => ?_
    refine st1 hS (ex rfl rfl) rfl fun a w hS => ?_
    refine st1 hS (ex rfl rfl) rfl fun a w hS => ?_
    refine st1 hS (asg rfl) rfl fun a w hS => ?_
    refine st1 hS (asg rfl) rfl fun a w hS => ?_
    refine st1 hS (asg rfl) rfl fun a w hS => ?_
    refine wpList_nil ?_
    refine then_n ?_
    refine wp_seq ?_
    refine wp_region_list ?_
    refine st1 hS (mv rfl) rfl fun a w hS => ?_
    refine st1 hS (mv rfl) rfl fun a w hS => ?_
    refine s_call hS rfl Tryd.call11 (mortiseref07_Inflate_c hG K s3458 limit3459 (hS.st.part 0 [] (by kernel_rfl)) (wp_bind hM) (fun x3465 x3466 x3467 w hM  hst => s_back hS.ev hst.appF rfl fun hS => ?_))
    replace hS : Ss _ _ _ H [] F _ _ := hS
    refine st1 hS (mv rfl) rfl fun a w hS => ?_
    refine st1 hS (ex rfl rfl) rfl fun a w hS => ?_
    refine st1 hS (ex rfl rfl) rfl fun a w hS => ?_
    refine st1 hS (ex rfl rfl) rfl fun a w hS => ?_
    refine st1 hS (asg rfl) rfl fun a w hS => ?_
    refine st1 hS (asg rfl) rfl fun a w hS => ?_
    refine st1 hS (asg rfl) rfl fun a w hS => ?_
    refine wpList_nil ?_
    refine then_n ?_
    refine wp_seq ?_
    refine wp_region_list ?_
    refine st1 hS (mv rfl) rfl fun a w hS => ?_
    refine st1 hS (mv rfl) rfl fun a w hS => ?_
    refine st1 hS (bins rfl rfl rfl) rfl fun a w hS => ?_
    refine st1 hS (mv rfl) rfl fun a w hS => ?_
    refine g_op 3 true 36 (b := (x3462 == x3465)) (r := (x3463 == x3466)) hS rfl rfl rfl rfl rfl rfl rfl (fun hb a w hS K hK => ?_) rfl fun a w hS => ?_
    · refine st1g hS rfl rfl rfl hb (mv rfl) rfl fun a w hS => ?_
      refine st1g hS rfl rfl rfl hb (mv rfl) rfl fun a w hS => ?_
      refine st1g hS rfl rfl rfl hb (bin rfl rfl rfl) rfl fun a w hS => ?_
      exact wpList_nil (hK _ _ (hS.up 3 rfl rfl))
    refine st1 hS (mv rfl) rfl fun a w hS => ?_
    refine g_op 3 true 41 (b := ((x3462 == x3465) && (x3463 == x3466))) (r := (x3464 == x3467)) hS rfl rfl rfl rfl rfl rfl rfl (fun hb a w hS K hK => ?_) rfl fun a w hS => ?_
    · refine st1g hS rfl rfl rfl hb (mv rfl) rfl fun a w hS => ?_
      refine st1g hS rfl rfl rfl hb (mv rfl) rfl fun a w hS => ?_
      refine st1g hS rfl rfl rfl hb (bin rfl rfl rfl) rfl fun a w hS => ?_
      exact wpList_nil (hK _ _ (hS.up 3 rfl rfl))
    refine st1 hS (mv rfl) rfl fun a w hS => ?_
    refine seg_cutJ (fun a w => ∃ (v3470 : Bool), Ss 49 [] [(48, .bool v3470)] H [] F a w ∧ (mortiselaw07_InflateReads.j1 K v3470).wp kr kp) 2 (fun J3471 hJ3471 => ?_) ?_
    · refine ifB (b := (((x3462 == x3465) && (x3463 == x3466)) && (x3464 == x3467))) hM (fun hb3468 hM => ?_) (fun hb3468 hM => ?_)
      · replace hS := hS.re 45 (v := .bool true) rfl (congrArg Value.bool hb3468)
        replace hS := hS.re 46 (v := .bool true) rfl (congrArg Value.bool hb3468)
        refine unguard hS rfl rfl rfl rfl ?_
        refine s_call hS rfl Tryd.call9 (mortiselaw07_live_c hG K  (hS.st.part 0 [] (by kernel_rfl)) (wp_bind hM) (fun x3469 w hM  hst => s_back hS.ev hst.appF rfl fun hS => ?_))
        replace hS : Ss _ _ _ H [] F _ _ := hS
        refine st1 hS (pk rfl rfl rfl) rfl fun a w hS => ?_
        refine wpList_nil ?_
        refine then_n ?_
        exact hJ3471 _ _ ⟨x3469, hS.to [] (by kernel_rfl) ⟨rfl, trivial⟩, hM⟩
      · replace hS := hS.re 45 (v := .bool false) rfl (congrArg Value.bool hb3468)
        replace hS := hS.re 46 (v := .bool false) rfl (congrArg Value.bool hb3468)
        refine skips 1 hS rfl fun a w hS => ?_
        refine st1 hS (pk rfl rfl rfl) rfl fun a w hS => ?_
        refine wpList_nil ?_
        refine then_n ?_
        exact hJ3471 _ _ ⟨false, hS.to [] (by kernel_rfl) ⟨rfl, trivial⟩, hM⟩
    · intro a w hI
      obtain ⟨v3470, hS, hM⟩ := hI
      rw [mortiselaw07_InflateReads.j1] at hM
      refine st1 hS (asg rfl) rfl fun a w hS => ?_
      refine wpList_nil ?_
      refine then_n ?_
      refine wp_ret ?_
      exact s_ret (rs := [4]) hS rfl rfl (hret v3470 w hM (hS.st.pick [] (by kernel_rfl)))

theorem mortiselaw07_InflateBehind_c {H : Imm} {F : List Frag} {w : World} {R : Ending → World → Prop} {kr : Bool → Prop} {kp : Value → Prop} (hG : Gl H) (K : Nat) (s3473 : List UInt8) (more3474 : List UInt8)
    (hS : St w H [] F) (hm : (mortiselaw07_InflateBehind.m K s3473 more3474).wp kr kp)
    (hret : ∀ (x3493 : Bool) (w : World), kr x3493 → St w H [] F → R (.returned (.bool x3493)) w) :
    Calls Tryd.prog 4 ⟨[str s3473, str more3474]⟩ w R := by
  refine enter Tryd.func4 rfl Tryd.ntmps4 rfl hS fun a w hS => ?_
  have hM := hm; clear hm
  rw [mortiselaw07_InflateBehind.m] at hM
  refine wp_seq ?_
  refine wp_region_list ?_
  refine st1 hS (asg rfl) rfl fun a w hS => ?_
  refine wpList_nil ?_
  refine then_n ?_
  refine wp_seq ?_
  refine wp_seq ?_
  refine wp_region_list ?_
  refine st1 hS (mv rfl) rfl fun a w hS => ?_
  refine st1 hS (lenS rfl Tryd.runUnderlying9) rfl fun a w hS => ?_
  refine st1 hS (bin rfl rfl rfl) rfl fun a w hS => ?_
  refine st1 hS (mv rfl) rfl fun a w hS => ?_
  refine g_op 3 false 14 (b := (decide ((s3473.length : Int) > (20000 : Int)))) (r := (decide ((more3474.length : Int) > (20000 : Int)))) hS rfl rfl rfl rfl rfl rfl rfl (fun hb a w hS K hK => ?_) rfl fun a w hS => ?_
  · refine st1g hS rfl rfl rfl hb (mv rfl) rfl fun a w hS => ?_
    refine st1g hS rfl rfl rfl hb (lenS rfl Tryd.runUnderlying9) rfl fun a w hS => ?_
    refine st1g hS rfl rfl rfl hb (bin rfl rfl rfl) rfl fun a w hS => ?_
    exact wpList_nil (hK _ _ (hS.up 3 rfl rfl))
  refine wpList_nil ?_
  refine then_n ?_
  refine s_cond hS rfl hM (fun hb3475 hM => ?_) (fun hb3475 hM => ?_)
  · refine wp_seq ?_
    refine wp_region_list ?_
    refine s_call hS rfl Tryd.call9 (mortiselaw07_live_c hG K  (hS.st.part 0 [] (by kernel_rfl)) (wp_bind hM) (fun x3476 w hM  hst => s_back hS.ev hst.appF rfl fun hS => ?_))
    replace hS : Ss _ _ _ H [] F _ _ := hS
    refine st1 hS (asg rfl) rfl fun a w hS => ?_
    refine wpList_nil ?_
    refine then_n ?_
    refine wp_ret ?_
    refine then_ret ?_
    exact s_ret (rs := [4]) hS rfl rfl (hret x3476 w hM (hS.st.pick [] (by kernel_rfl)))
  · refine wp_skip ?_
    refine then_n ?_
    refine wp_seq ?_
    refine wp_region_list ?_
    refine st1 hS (mv rfl) rfl fun a w hS => ?_
    refine s_call hS rfl Tryd.call10 (inflate_Inflate_c hG K s3473 (100000 : Int) (hS.st.part 0 [] (by kernel_rfl)) (wp_bind hM) (fun x3477 x3478 x3479 w hM  hst => s_back hS.ev hst.appF rfl fun hS => ?_))
    replace hS : Ss _ _ _ H [] F _ _ := hS
    refine st1 hS (mv rfl) rfl fun a w hS => ?_
    refine st1 hS (ex rfl rfl) rfl fun a w hS => ?_
    refine st1 hS (ex rfl rfl) rfl fun a w hS => ?_
    refine st1 hS (ex rfl rfl) rfl fun a w hS => ?_
    refine st1 hS (asg rfl) rfl fun a w hS => ?_
    refine st1 hS (asg rfl) rfl fun a w hS => ?_
    refine st1 hS (asg rfl) rfl fun a w hS => ?_
    refine wpList_nil ?_
    refine then_n ?_
    refine wp_seq ?_
    refine wp_region_list ?_
    refine st1 hS (mv rfl) rfl fun a w hS => ?_
    refine st1 hS (mv rfl) rfl fun a w hS => ?_
    obtain ⟨hk3480, hM⟩ := wp_chk hM
    refine st1 hS (cat rfl rfl hk3480) rfl fun a w hS => ?_
    refine s_call hS rfl Tryd.call10 (inflate_Inflate_c hG K (s3473 ++ more3474) (100000 : Int) (hS.st.part 0 [] (by kernel_rfl)) (wp_bind hM) (fun x3481 x3482 x3483 w hM  hst => s_back hS.ev hst.appF rfl fun hS => ?_))
    replace hS : Ss _ _ _ H [] F _ _ := hS
    refine st1 hS (mv rfl) rfl fun a w hS => ?_
    refine st1 hS (ex rfl rfl) rfl fun a w hS => ?_
    refine st1 hS (ex rfl rfl) rfl fun a w hS => ?_
    refine st1 hS (ex rfl rfl) rfl fun a w hS => ?_
    refine st1 hS (asg rfl) rfl fun a w hS => ?_
    refine st1 hS (asg rfl) rfl fun a w hS => ?_
    refine st1 hS (asg rfl) rfl fun a w hS => ?_
    refine wpList_nil ?_
    refine then_n ?_
    refine wp_seq ?_
    refine wp_seq ?_
    refine wp_region_list ?_
    refine st1 hS (mv rfl) rfl fun a w hS => ?_
    refine st1 hS (bin rfl rfl rfl) rfl fun a w hS => ?_
    refine wpList_nil ?_
    refine then_n ?_
    refine s_cond hS rfl hM (fun hb3484 hM => ?_) (fun hb3484 hM => ?_)
    · refine wp_seq ?_
      refine wp_region_list ?_
      refine st1 hS (mv rfl) rfl fun a w hS => ?_
      refine st1 hS (bin rfl rfl rfl) rfl fun a w hS => ?_
      refine st1 hS (mv rfl) rfl fun a w hS => ?_
      refine g_op 3 false 38 (b := (x3479 == (2 : Int))) (r := (x3483 == x3479)) hS rfl rfl rfl rfl rfl rfl rfl (fun hb a w hS K hK => ?_) rfl fun a w hS => ?_
      · refine st1g hS rfl rfl rfl hb (mv rfl) rfl fun a w hS => ?_
        refine st1g hS rfl rfl rfl hb (mv rfl) rfl fun a w hS => ?_
        refine st1g hS rfl rfl rfl hb (bin rfl rfl rfl) rfl fun a w hS => ?_
        exact wpList_nil (hK _ _ (hS.up 3 rfl rfl))
      refine st1 hS (mv rfl) rfl fun a w hS => ?_
      refine seg_cutJ (fun a w => ∃ (v3487 : Bool), Ss 67 [] [(45, .bool v3487)] H [] F a w ∧ (mortiselaw07_InflateBehind.j1 K v3487).wp kr kp) 2 (fun J3488 hJ3488 => ?_) ?_
      · refine ifB (b := ((x3479 == (2 : Int)) || (x3483 == x3479))) hM (fun hb3485 hM => ?_) (fun hb3485 hM => ?_)
        · replace hS := hS.re 42 (v := .bool true) rfl (congrArg Value.bool hb3485)
          replace hS := hS.re 43 (v := .bool true) rfl (congrArg Value.bool hb3485)
          refine unguard hS rfl rfl rfl rfl ?_
          refine s_call hS rfl Tryd.call9 (mortiselaw07_live_c hG K  (hS.st.part 0 [] (by kernel_rfl)) (wp_bind hM) (fun x3486 w hM  hst => s_back hS.ev hst.appF rfl fun hS => ?_))
          replace hS : Ss _ _ _ H [] F _ _ := hS
          refine st1 hS (pk rfl rfl rfl) rfl fun a w hS => ?_
          refine wpList_nil ?_
          refine then_n ?_
          exact hJ3488 _ _ ⟨x3486, hS.to [] (by kernel_rfl) ⟨rfl, trivial⟩, hM⟩
        · replace hS := hS.re 42 (v := .bool false) rfl (congrArg Value.bool hb3485)
          replace hS := hS.re 43 (v := .bool false) rfl (congrArg Value.bool hb3485)
          refine skips 1 hS rfl fun a w hS => ?_
          refine st1 hS (pk rfl rfl rfl) rfl fun a w hS => ?_
          refine wpList_nil ?_
          refine then_n ?_
          exact hJ3488 _ _ ⟨false, hS.to [] (by kernel_rfl) ⟨rfl, trivial⟩, hM⟩
      · intro a w hI
        obtain ⟨v3487, hS, hM⟩ := hI
        rw [mortiselaw07_InflateBehind.j1] at hM
        refine st1 hS (asg rfl) rfl fun a w hS => ?_
        refine wpList_nil ?_
        refine then_n ?_
        refine wp_ret ?_
        refine then_ret ?_
        exact s_ret (rs := [4]) hS rfl rfl (hret v3487 w hM (hS.st.pick [] (by kernel_rfl)))
    · refine wp_skip ?_
      refine then_n ?_
      refine wp_seq ?_
      refine wp_region_list ?_
      refine st1 hS (mv rfl) rfl fun a w hS => ?_
      refine st1 hS (bin rfl rfl rfl) rfl fun a w hS => ?_
      refine st1 hS (mv rfl) rfl fun a w hS => ?_
      refine g_op 3 true 48 (b := (x3483 == (0 : Int))) (r := (x3477 == x3481)) hS rfl rfl rfl rfl rfl rfl rfl (fun hb a w hS K hK => ?_) rfl fun a w hS => ?_
      · refine st1g hS rfl rfl rfl hb (mv rfl) rfl fun a w hS => ?_
        refine st1g hS rfl rfl rfl hb (mv rfl) rfl fun a w hS => ?_
        refine st1g hS rfl rfl rfl hb (bins rfl rfl rfl) rfl fun a w hS => ?_
        exact wpList_nil (hK _ _ (hS.up 3 rfl rfl))
      refine st1 hS (mv rfl) rfl fun a w hS => ?_
      refine g_op 3 true 53 (b := ((x3483 == (0 : Int)) && (x3477 == x3481))) (r := (x3478 == x3482)) hS rfl rfl rfl rfl rfl rfl rfl (fun hb a w hS K hK => ?_) rfl fun a w hS => ?_
      · refine st1g hS rfl rfl rfl hb (mv rfl) rfl fun a w hS => ?_
        refine st1g hS rfl rfl rfl hb (mv rfl) rfl fun a w hS => ?_
        refine st1g hS rfl rfl rfl hb (bin rfl rfl rfl) rfl fun a w hS => ?_
        exact wpList_nil (hK _ _ (hS.up 3 rfl rfl))
      refine st1 hS (mv rfl) rfl fun a w hS => ?_
      refine g_op 4 true 58 (b := (((x3483 == (0 : Int)) && (x3477 == x3481)) && (x3478 == x3482))) (r := (decide (x3478 ≤ (s3473.length : Int)))) hS rfl rfl rfl rfl rfl rfl rfl (fun hb a w hS K hK => ?_) rfl fun a w hS => ?_
      · refine st1g hS rfl rfl rfl hb (mv rfl) rfl fun a w hS => ?_
        refine st1g hS rfl rfl rfl hb (mv rfl) rfl fun a w hS => ?_
        refine st1g hS rfl rfl rfl hb (lenS rfl Tryd.runUnderlying9) rfl fun a w hS => ?_
        refine st1g hS rfl rfl rfl hb (bin rfl rfl rfl) rfl fun a w hS => ?_
        exact wpList_nil (hK _ _ (hS.up 4 rfl rfl))
      refine st1 hS (mv rfl) rfl fun a w hS => ?_
      refine seg_cutJ (fun a w => ∃ (v3491 : Bool), Ss 67 [] [(66, .bool v3491)] H [] F a w ∧ (mortiselaw07_InflateBehind.j2 K v3491).wp kr kp) 2 (fun J3492 hJ3492 => ?_) ?_
      · refine ifB (b := ((((x3483 == (0 : Int)) && (x3477 == x3481)) && (x3478 == x3482)) && (decide (x3478 ≤ (s3473.length : Int))))) hM (fun hb3489 hM => ?_) (fun hb3489 hM => ?_)
        · replace hS := hS.re 63 (v := .bool true) rfl (congrArg Value.bool hb3489)
          replace hS := hS.re 64 (v := .bool true) rfl (congrArg Value.bool hb3489)
          refine unguard hS rfl rfl rfl rfl ?_
          refine s_call hS rfl Tryd.call9 (mortiselaw07_live_c hG K  (hS.st.part 0 [] (by kernel_rfl)) (wp_bind hM) (fun x3490 w hM  hst => s_back hS.ev hst.appF rfl fun hS => ?_))
          replace hS : Ss _ _ _ H [] F _ _ := hS
          refine st1 hS (pk rfl rfl rfl) rfl fun a w hS => ?_
          refine wpList_nil ?_
          refine then_n ?_
          exact hJ3492 _ _ ⟨x3490, hS.to [] (by kernel_rfl) ⟨rfl, trivial⟩, hM⟩
        · replace hS := hS.re 63 (v := .bool false) rfl (congrArg Value.bool hb3489)
          replace hS := hS.re 64 (v := .bool false) rfl (congrArg Value.bool hb3489)
          refine skips 1 hS rfl fun a w hS => ?_
          refine st1 hS (pk rfl rfl rfl) rfl fun a w hS => ?_
          refine wpList_nil ?_
          refine then_n ?_
          exact hJ3492 _ _ ⟨false, hS.to [] (by kernel_rfl) ⟨rfl, trivial⟩, hM⟩
      · intro a w hI
        obtain ⟨v3491, hS, hM⟩ := hI
        rw [mortiselaw07_InflateBehind.j2] at hM
        refine st1 hS (asg rfl) rfl fun a w hS => ?_
        refine wpList_nil ?_
        refine then_n ?_
        refine wp_ret ?_
        exact s_ret (rs := [4]) hS rfl rfl (hret v3491 w hM (hS.st.pick [] (by kernel_rfl)))

theorem mortiselaw07_InflateCut_c {H : Imm} {F : List Frag} {w : World} {R : Ending → World → Prop} {kr : Bool → Prop} {kp : Value → Prop} (hG : Gl H) (K : Nat) (s3494 : List UInt8) (at_3495 : Int)
    (hS : St w H [] F) (hm : (mortiselaw07_InflateCut.m K s3494 at_3495).wp kr kp)
    (hret : ∀ (x3519 : Bool) (w : World), kr x3519 → St w H [] F → R (.returned (.bool x3519)) w) :
    Calls Tryd.prog 5 ⟨[str s3494, .int .i64 at_3495]⟩ w R := by
  refine enter Tryd.func5 rfl Tryd.ntmps5 rfl hS fun a w hS => ?_
  have hM := hm; clear hm
  rw [mortiselaw07_InflateCut.m] at hM
  refine wp_seq ?_
  refine wp_region_list ?_
  refine st1 hS (asg rfl) rfl fun a w hS => ?_
  refine wpList_nil ?_
  refine then_n ?_
  refine wp_seq ?_
  refine wp_seq ?_
  refine wp_region_list ?_
  refine st1 hS (mv rfl) rfl fun a w hS => ?_
  refine st1 hS (lenS rfl Tryd.runUnderlying9) rfl fun a w hS => ?_
  refine st1 hS (bin rfl rfl rfl) rfl fun a w hS => ?_
  refine wpList_nil ?_
  refine then_n ?_
  refine s_cond hS rfl hM (fun hb3496 hM => ?_) (fun hb3496 hM => ?_)
  · refine wp_seq ?_
    refine wp_region_list ?_
    refine s_call hS rfl Tryd.call9 (mortiselaw07_live_c hG K  (hS.st.part 0 [] (by kernel_rfl)) (wp_bind hM) (fun x3497 w hM  hst => s_back hS.ev hst.appF rfl fun hS => ?_))
    replace hS : Ss _ _ _ H [] F _ _ := hS
    refine st1 hS (asg rfl) rfl fun a w hS => ?_
    refine wpList_nil ?_
    refine then_n ?_
    refine wp_ret ?_
    refine then_ret ?_
    exact s_ret (rs := [4]) hS rfl rfl (hret x3497 w hM (hS.st.pick [] (by kernel_rfl)))
  · refine wp_skip ?_
    refine then_n ?_
    refine wp_seq ?_
    refine wp_region_list ?_
    refine st1 hS (mv rfl) rfl fun a w hS => ?_
    refine s_call hS rfl Tryd.call10 (inflate_Inflate_c hG K s3494 (100000 : Int) (hS.st.part 0 [] (by kernel_rfl)) (wp_bind hM) (fun x3498 x3499 x3500 w hM  hst => s_back hS.ev hst.appF rfl fun hS => ?_))
    replace hS : Ss _ _ _ H [] F _ _ := hS
    refine st1 hS (mv rfl) rfl fun a w hS => ?_
    refine st1 hS (ex rfl rfl) rfl fun a w hS => ?_
    refine st1 hS (ex rfl rfl) rfl fun a w hS => ?_
    refine st1 hS (ex rfl rfl) rfl fun a w hS => ?_
    refine st1 hS (asg rfl) rfl fun a w hS => ?_
    refine st1 hS (asg rfl) rfl fun a w hS => ?_
    refine st1 hS (asg rfl) rfl fun a w hS => ?_
    refine wpList_nil ?_
    refine then_n ?_
    refine wp_seq ?_
    refine wp_seq ?_
    refine wp_region_list ?_
    refine st1 hS (mv rfl) rfl fun a w hS => ?_
    refine st1 hS (bin rfl rfl rfl) rfl fun a w hS => ?_
    refine st1 hS (mv rfl) rfl fun a w hS => ?_
    refine g_op 2 false 23 (b := (x3500 != (0 : Int))) (r := (x3499 == (0 : Int))) hS rfl rfl rfl rfl rfl rfl rfl (fun hb a w hS K hK => ?_) rfl fun a w hS => ?_
    · refine st1g hS rfl rfl rfl hb (mv rfl) rfl fun a w hS => ?_
      refine st1g hS rfl rfl rfl hb (bin rfl rfl rfl) rfl fun a w hS => ?_
      exact wpList_nil (hK _ _ (hS.up 2 rfl rfl))
    refine st1 hS (mv rfl) rfl fun a w hS => ?_
    refine g_op 4 false 27 (b := ((x3500 != (0 : Int)) || (x3499 == (0 : Int)))) (r := (decide (x3499 > (s3494.length : Int)))) hS rfl rfl rfl rfl rfl rfl rfl (fun hb a w hS K hK => ?_) rfl fun a w hS => ?_
    · refine st1g hS rfl rfl rfl hb (mv rfl) rfl fun a w hS => ?_
      refine st1g hS rfl rfl rfl hb (mv rfl) rfl fun a w hS => ?_
      refine st1g hS rfl rfl rfl hb (lenS rfl Tryd.runUnderlying9) rfl fun a w hS => ?_
      refine st1g hS rfl rfl rfl hb (bin rfl rfl rfl) rfl fun a w hS => ?_
      exact wpList_nil (hK _ _ (hS.up 4 rfl rfl))
    refine wpList_nil ?_
    refine then_n ?_
    refine s_cond hS rfl hM (fun hb3501 hM => ?_) (fun hb3501 hM => ?_)
    · refine wp_seq ?_
      refine wp_region_list ?_
      refine st1 hS (mv rfl) rfl fun a w hS => ?_
      refine st1 hS (mv rfl) rfl fun a w hS => ?_
      refine st1 hS (lenS rfl Tryd.runUnderlying9) rfl fun a w hS => ?_
      refine st1 hS (bin rfl rfl rfl) rfl fun a w hS => ?_
      refine st1 hS (mv rfl) rfl fun a w hS => ?_
      refine seg_cutJ (fun a w => ∃ (v3504 : Bool), Ss 60 [] [(39, .bool v3504)] H [] F a w ∧ (mortiselaw07_InflateCut.j1 K v3504).wp kr kp) 2 (fun J3505 hJ3505 => ?_) ?_
      · refine ifB (b := (decide (x3499 ≤ (s3494.length : Int)))) hM (fun hb3502 hM => ?_) (fun hb3502 hM => ?_)
        · replace hS := hS.re 36 (v := .bool true) rfl (congrArg Value.bool hb3502)
          replace hS := hS.re 37 (v := .bool true) rfl (congrArg Value.bool hb3502)
          refine unguard hS rfl rfl rfl rfl ?_
          refine s_call hS rfl Tryd.call9 (mortiselaw07_live_c hG K  (hS.st.part 0 [] (by kernel_rfl)) (wp_bind hM) (fun x3503 w hM  hst => s_back hS.ev hst.appF rfl fun hS => ?_))
          replace hS : Ss _ _ _ H [] F _ _ := hS
          refine st1 hS (pk rfl rfl rfl) rfl fun a w hS => ?_
          refine wpList_nil ?_
          refine then_n ?_
          exact hJ3505 _ _ ⟨x3503, hS.to [] (by kernel_rfl) ⟨rfl, trivial⟩, hM⟩
        · replace hS := hS.re 36 (v := .bool false) rfl (congrArg Value.bool hb3502)
          replace hS := hS.re 37 (v := .bool false) rfl (congrArg Value.bool hb3502)
          refine skips 1 hS rfl fun a w hS => ?_
          refine st1 hS (pk rfl rfl rfl) rfl fun a w hS => ?_
          refine wpList_nil ?_
          refine then_n ?_
          exact hJ3505 _ _ ⟨false, hS.to [] (by kernel_rfl) ⟨rfl, trivial⟩, hM⟩
      · intro a w hI
        obtain ⟨v3504, hS, hM⟩ := hI
        rw [mortiselaw07_InflateCut.j1] at hM
        refine st1 hS (asg rfl) rfl fun a w hS => ?_
        refine wpList_nil ?_
        refine then_n ?_
        refine wp_ret ?_
        refine then_ret ?_
        exact s_ret (rs := [4]) hS rfl rfl (hret v3504 w hM (hS.st.pick [] (by kernel_rfl)))
    · refine wp_skip ?_
      refine then_n ?_
      refine seq_joinJ (fun a w => ∃ (at_3508 : Int), Ss 60 [] [(0, str s3494), (1, .int .i64 at_3508), (6, .int .i64 x3499)] H [] F a w ∧ (mortiselaw07_InflateCut.j2 K s3494 x3499 at_3508).wp kr kp) (fun J3509 hJ3509 => ?_) ?_
      · refine wp_seq ?_
        refine wp_region_list ?_
        refine st1 hS (mv rfl) rfl fun a w hS => ?_
        refine st1 hS (bin rfl rfl rfl) rfl fun a w hS => ?_
        refine wpList_nil ?_
        refine then_n ?_
        refine s_cond hS rfl hM (fun hb3506 hM => ?_) (fun hb3506 hM => ?_)
        · refine wp_region_list ?_
          refine st1 hS (mv rfl) rfl fun a w hS => ?_
          refine st1 hS (bin rfl rfl rfl) rfl fun a w hS => ?_
          refine st1 hS (un rfl rfl) rfl fun a w hS => ?_
          refine st1x (v := Value.int .i64) hS (asg rfl) rfl fun at_3507 a w hz hS => ?_
          have hM := lt_to hz hM; clear hz
          refine wpList_nil ?_
          refine then_n ?_
          exact hJ3509 _ _ ⟨at_3507, hS.to [] (by kernel_rfl) ⟨rfl, rfl, rfl, trivial⟩, hM⟩
        · refine wp_skip ?_
          refine then_n ?_
          exact hJ3509 _ _ ⟨at_3495, hS.to [] (by kernel_rfl) ⟨rfl, rfl, rfl, trivial⟩, hM⟩
      · intro a w hI
        obtain ⟨at_3508, hS, hM⟩ := hI
        rw [mortiselaw07_InflateCut.j2] at hM
        refine wp_seq ?_
        refine wp_region_list ?_
        refine st1 hS (mv rfl) rfl fun a w hS => ?_
        refine st1 hS (mv rfl) rfl fun a w hS => ?_
        refine st1 hS (mv rfl) rfl fun a w hS => ?_
        obtain ⟨hk3510, hM⟩ := wp_chk hM
        refine st1 hS (rem rfl rfl hk3510) rfl fun a w hS => ?_
        obtain ⟨hk3511, hM⟩ := wp_chk hM
        refine st1 hS (slS rfl Tryd.runUnderlying9 lo0 (hiS rfl) hk3511) rfl fun a w hS => ?_
        refine s_call hS rfl Tryd.call10 (inflate_Inflate_c hG K (sub s3494 (0 : Int) (irem at_3508 x3499)) (100000 : Int) (hS.st.part 0 [] (by kernel_rfl)) (wp_bind hM) (fun x3512 x3513 x3514 w hM  hst => s_back hS.ev hst.appF rfl fun hS => ?_))
        replace hS : Ss _ _ _ H [] F _ _ := hS
        refine st1 hS (mv rfl) rfl fun a w hS => ?_
        refine st1 hS (ex rfl rfl) rfl fun a w hS => ?_
        refine st1 hS (ex rfl rfl) rfl fun a w hS => ?_
        refine st1 hS (ex rfl rfl) rfl fun a w hS => ?_
        refine st1 hS (asg rfl) rfl fun a w hS => ?_
        refine st1 hS (asg rfl) rfl fun a w hS => ?_
        refine st1 hS (asg rfl) rfl fun a w hS => ?_
        refine wpList_nil ?_
        refine then_n ?_
        refine wp_seq ?_
        refine wp_region_list ?_
        refine st1 hS (mv rfl) rfl fun a w hS => ?_
        refine st1 hS (bin rfl rfl rfl) rfl fun a w hS => ?_
        refine st1 hS (mv rfl) rfl fun a w hS => ?_
        refine seg_cutJ (fun a w => ∃ (v3517 : Bool), Ss 60 [] [(59, .bool v3517)] H [] F a w ∧ (mortiselaw07_InflateCut.j3 K v3517).wp kr kp) 2 (fun J3518 hJ3518 => ?_) ?_
        · refine ifB (b := (x3514 == (2 : Int))) hM (fun hb3515 hM => ?_) (fun hb3515 hM => ?_)
          · replace hS := hS.re 56 (v := .bool true) rfl (congrArg Value.bool hb3515)
            replace hS := hS.re 57 (v := .bool true) rfl (congrArg Value.bool hb3515)
            refine unguard hS rfl rfl rfl rfl ?_
            refine s_call hS rfl Tryd.call9 (mortiselaw07_live_c hG K  (hS.st.part 0 [] (by kernel_rfl)) (wp_bind hM) (fun x3516 w hM  hst => s_back hS.ev hst.appF rfl fun hS => ?_))
            replace hS : Ss _ _ _ H [] F _ _ := hS
            refine st1 hS (pk rfl rfl rfl) rfl fun a w hS => ?_
            refine wpList_nil ?_
            refine then_n ?_
            exact hJ3518 _ _ ⟨x3516, hS.to [] (by kernel_rfl) ⟨rfl, trivial⟩, hM⟩
          · replace hS := hS.re 56 (v := .bool false) rfl (congrArg Value.bool hb3515)
            replace hS := hS.re 57 (v := .bool false) rfl (congrArg Value.bool hb3515)
            refine skips 1 hS rfl fun a w hS => ?_
            refine st1 hS (pk rfl rfl rfl) rfl fun a w hS => ?_
            refine wpList_nil ?_
            refine then_n ?_
            exact hJ3518 _ _ ⟨false, hS.to [] (by kernel_rfl) ⟨rfl, trivial⟩, hM⟩
        · intro a w hI
          obtain ⟨v3517, hS, hM⟩ := hI
          rw [mortiselaw07_InflateCut.j3] at hM
          refine st1 hS (asg rfl) rfl fun a w hS => ?_
          refine wpList_nil ?_
          refine then_n ?_
          refine wp_ret ?_
          exact s_ret (rs := [4]) hS rfl rfl (hret v3517 w hM (hS.st.pick [] (by kernel_rfl)))

theorem mortiselaw07_InflateLimits_c {H : Imm} {F : List Frag} {w : World} {R : Ending → World → Prop} {kr : Bool → Prop} {kp : Value → Prop} (hG : Gl H) (K : Nat) (s3520 : List UInt8)
    (hS : St w H [] F) (hm : (mortiselaw07_InflateLimits.m K s3520).wp kr kp)
    (hret : ∀ (x3544 : Bool) (w : World), kr x3544 → St w H [] F → R (.returned (.bool x3544)) w) :
    Calls Tryd.prog 6 ⟨[str s3520]⟩ w R := by
  refine enter Tryd.func6 rfl Tryd.ntmps6 rfl hS fun a w hS => ?_
  have hM := hm; clear hm
  rw [mortiselaw07_InflateLimits.m] at hM
  refine wp_seq ?_
  refine wp_region_list ?_
  refine st1 hS (asg rfl) rfl fun a w hS => ?_
  refine wpList_nil ?_
  refine then_n ?_
  refine wp_seq ?_
  refine wp_seq ?_
  refine wp_region_list ?_
  refine st1 hS (mv rfl) rfl fun a w hS => ?_
  refine st1 hS (lenS rfl Tryd.runUnderlying9) rfl fun a w hS => ?_
  refine st1 hS (bin rfl rfl rfl) rfl fun a w hS => ?_
  refine wpList_nil ?_
  refine then_n ?_
  refine s_cond hS rfl hM (fun hb3521 hM => ?_) (fun hb3521 hM => ?_)
  · refine wp_seq ?_
    refine wp_region_list ?_
    refine s_call hS rfl Tryd.call9 (mortiselaw07_live_c hG K  (hS.st.part 0 [] (by kernel_rfl)) (wp_bind hM) (fun x3522 w hM  hst => s_back hS.ev hst.appF rfl fun hS => ?_))
    replace hS : Ss _ _ _ H [] F _ _ := hS
    refine st1 hS (asg rfl) rfl fun a w hS => ?_
    refine wpList_nil ?_
    refine then_n ?_
    refine wp_ret ?_
    refine then_ret ?_
    exact s_ret (rs := [2]) hS rfl rfl (hret x3522 w hM (hS.st.pick [] (by kernel_rfl)))
  · refine wp_skip ?_
    refine then_n ?_
    refine wp_seq ?_
    refine wp_region_list ?_
    refine st1 hS (mv rfl) rfl fun a w hS => ?_
    refine s_call hS rfl Tryd.call10 (inflate_Inflate_c hG K s3520 (100000 : Int) (hS.st.part 0 [] (by kernel_rfl)) (wp_bind hM) (fun x3523 x3524 x3525 w hM  hst => s_back hS.ev hst.appF rfl fun hS => ?_))
    replace hS : Ss _ _ _ H [] F _ _ := hS
    refine st1 hS (mv rfl) rfl fun a w hS => ?_
    refine st1 hS (ex rfl rfl) rfl fun a w hS => ?_
    refine st1 hS (ex rfl rfl) rfl fun a w hS => ?_
    refine st1 hS (ex rfl rfl) rfl fun a w hS => ?_
    refine st1 hS (asg rfl) rfl fun a w hS => ?_
    refine st1 hS (asg rfl) rfl fun a w hS => ?_
    refine st1 hS (asg rfl) rfl fun a w hS => ?_
    refine wpList_nil ?_
    refine then_n ?_
    refine wp_seq ?_
    refine wp_seq ?_
    refine wp_region_list ?_
    refine st1 hS (mv rfl) rfl fun a w hS => ?_
    refine st1 hS (bin rfl rfl rfl) rfl fun a w hS => ?_
    refine wpList_nil ?_
    refine then_n ?_
    refine s_cond hS rfl hM (fun hb3526 hM => ?_) (fun hb3526 hM => ?_)
    · refine wp_seq ?_
      refine wp_region_list ?_
      refine st1 hS (mv rfl) rfl fun a w hS => ?_
      refine st1 hS (bins rfl rfl rfl) rfl fun a w hS => ?_
      refine st1 hS (mv rfl) rfl fun a w hS => ?_
      refine g_op 2 true 26 (b := (x3523 == ([] : List UInt8))) (r := (x3524 == (0 : Int))) hS rfl rfl rfl rfl rfl rfl rfl (fun hb a w hS K hK => ?_) rfl fun a w hS => ?_
      · refine st1g hS rfl rfl rfl hb (mv rfl) rfl fun a w hS => ?_
        refine st1g hS rfl rfl rfl hb (bin rfl rfl rfl) rfl fun a w hS => ?_
        exact wpList_nil (hK _ _ (hS.up 2 rfl rfl))
      refine st1 hS (mv rfl) rfl fun a w hS => ?_
      refine seg_cutJ (fun a w => ∃ (v3529 : Bool), Ss 71 [] [(32, .bool v3529)] H [] F a w ∧ (mortiselaw07_InflateLimits.j1 K v3529).wp kr kp) 2 (fun J3530 hJ3530 => ?_) ?_
      · refine ifB (b := ((x3523 == ([] : List UInt8)) && (x3524 == (0 : Int)))) hM (fun hb3527 hM => ?_) (fun hb3527 hM => ?_)
        · replace hS := hS.re 29 (v := .bool true) rfl (congrArg Value.bool hb3527)
          replace hS := hS.re 30 (v := .bool true) rfl (congrArg Value.bool hb3527)
          refine unguard hS rfl rfl rfl rfl ?_
          refine s_call hS rfl Tryd.call9 (mortiselaw07_live_c hG K  (hS.st.part 0 [] (by kernel_rfl)) (wp_bind hM) (fun x3528 w hM  hst => s_back hS.ev hst.appF rfl fun hS => ?_))
          replace hS : Ss _ _ _ H [] F _ _ := hS
          refine st1 hS (pk rfl rfl rfl) rfl fun a w hS => ?_
          refine wpList_nil ?_
          refine then_n ?_
          exact hJ3530 _ _ ⟨x3528, hS.to [] (by kernel_rfl) ⟨rfl, trivial⟩, hM⟩
        · replace hS := hS.re 29 (v := .bool false) rfl (congrArg Value.bool hb3527)
          replace hS := hS.re 30 (v := .bool false) rfl (congrArg Value.bool hb3527)
          refine skips 1 hS rfl fun a w hS => ?_
          refine st1 hS (pk rfl rfl rfl) rfl fun a w hS => ?_
          refine wpList_nil ?_
          refine then_n ?_
          exact hJ3530 _ _ ⟨false, hS.to [] (by kernel_rfl) ⟨rfl, trivial⟩, hM⟩
      · intro a w hI
        obtain ⟨v3529, hS, hM⟩ := hI
        rw [mortiselaw07_InflateLimits.j1] at hM
        refine st1 hS (asg rfl) rfl fun a w hS => ?_
        refine wpList_nil ?_
        refine then_n ?_
        refine wp_ret ?_
        refine then_ret ?_
        exact s_ret (rs := [2]) hS rfl rfl (hret v3529 w hM (hS.st.pick [] (by kernel_rfl)))
    · refine wp_skip ?_
      refine then_n ?_
      refine wp_seq ?_
      refine wp_region_list ?_
      refine st1 hS (mv rfl) rfl fun a w hS => ?_
      refine st1 hS (mv rfl) rfl fun a w hS => ?_
      refine st1 hS (lenS rfl Tryd.runUnderlying9) rfl fun a w hS => ?_
      refine s_call hS rfl Tryd.call10 (inflate_Inflate_c hG K s3520 (x3523.length : Int) (hS.st.part 0 [] (by kernel_rfl)) (wp_bind hM) (fun x3531 x3532 x3533 w hM  hst => s_back hS.ev hst.appF rfl fun hS => ?_))
      replace hS : Ss _ _ _ H [] F _ _ := hS
      refine st1 hS (mv rfl) rfl fun a w hS => ?_
      refine st1 hS (ex rfl rfl) rfl fun a w hS => ?_
      refine st1 hS (ex rfl rfl) rfl fun a w hS => ?_
      refine st1 hS (ex rfl rfl) rfl fun a w hS => ?_
      refine st1 hS (asg rfl) rfl fun a w hS => ?_
      refine st1 hS (asg rfl) rfl fun a w hS => ?_
      refine st1 hS (asg rfl) rfl fun a w hS => ?_
      refine wpList_nil ?_
      refine then_n ?_
      refine wp_seq ?_
      refine wp_seq ?_
      refine wp_region_list ?_
      refine st1 hS (mv rfl) rfl fun a w hS => ?_
      refine st1 hS (mv rfl) rfl fun a w hS => ?_
      refine st1 hS (bins rfl rfl rfl) rfl fun a w hS => ?_
      refine st1 hS (mv rfl) rfl fun a w hS => ?_
      refine g_op 3 false 44 (b := (!(x3531 == x3523))) (r := (x3532 != x3524)) hS rfl rfl rfl rfl rfl rfl rfl (fun hb a w hS K hK => ?_) rfl fun a w hS => ?_
      · refine st1g hS rfl rfl rfl hb (mv rfl) rfl fun a w hS => ?_
        refine st1g hS rfl rfl rfl hb (mv rfl) rfl fun a w hS => ?_
        refine st1g hS rfl rfl rfl hb (bin rfl rfl rfl) rfl fun a w hS => ?_
        exact wpList_nil (hK _ _ (hS.up 3 rfl rfl))
      refine st1 hS (mv rfl) rfl fun a w hS => ?_
      refine g_op 2 false 49 (b := ((!(x3531 == x3523)) || (x3532 != x3524))) (r := (x3533 != (0 : Int))) hS rfl rfl rfl rfl rfl rfl rfl (fun hb a w hS K hK => ?_) rfl fun a w hS => ?_
      · refine st1g hS rfl rfl rfl hb (mv rfl) rfl fun a w hS => ?_
        refine st1g hS rfl rfl rfl hb (bin rfl rfl rfl) rfl fun a w hS => ?_
        exact wpList_nil (hK _ _ (hS.up 2 rfl rfl))
      refine wpList_nil ?_
      refine then_n ?_
      refine s_cond hS rfl hM (fun hb3534 hM => ?_) (fun hb3534 hM => ?_)
      · refine wp_seq ?_
        refine wp_region_list ?_
        refine st1 hS (asg rfl) rfl fun a w hS => ?_
        refine wpList_nil ?_
        refine then_n ?_
        refine wp_ret ?_
        refine then_ret ?_
        exact s_ret (rs := [2]) hS rfl rfl (hret false w hM (hS.st.pick [] (by kernel_rfl)))
      · refine wp_skip ?_
        refine then_n ?_
        refine wp_seq ?_
        refine wp_seq ?_
        refine wp_region_list ?_
        refine st1 hS (mv rfl) rfl fun a w hS => ?_
        refine st1 hS (lenS rfl Tryd.runUnderlying9) rfl fun a w hS => ?_
        refine st1 hS (bin rfl rfl rfl) rfl fun a w hS => ?_
        refine wpList_nil ?_
        refine then_n ?_
        refine s_cond hS rfl hM (fun hb3535 hM => ?_) (fun hb3535 hM => ?_)
        · refine wp_seq ?_
          refine wp_region_list ?_
          refine s_call hS rfl Tryd.call9 (mortiselaw07_live_c hG K  (hS.st.part 0 [] (by kernel_rfl)) (wp_bind hM) (fun x3536 w hM  hst => s_back hS.ev hst.appF rfl fun hS => ?_))
          replace hS : Ss _ _ _ H [] F _ _ := hS
          refine st1 hS (asg rfl) rfl fun a w hS => ?_
          refine wpList_nil ?_
          refine then_n ?_
          refine wp_ret ?_
          refine then_ret ?_
          exact s_ret (rs := [2]) hS rfl rfl (hret x3536 w hM (hS.st.pick [] (by kernel_rfl)))
        · refine wp_skip ?_
          refine then_n ?_
          refine wp_seq ?_
          refine wp_region_list ?_
          refine st1 hS (mv rfl) rfl fun a w hS => ?_
          refine st1 hS (mv rfl) rfl fun a w hS => ?_
          refine st1 hS (lenS rfl Tryd.runUnderlying9) rfl fun a w hS => ?_
          refine st1 hS (bin rfl rfl rfl) rfl fun a w hS => ?_
          refine s_call hS rfl Tryd.call10 (inflate_Inflate_c hG K s3520 (w64 ((x3523.length : Int) - (1 : Int))) (hS.st.part 0 [] (by kernel_rfl)) (wp_bind hM) (fun x3537 x3538 x3539 w hM  hst => s_back hS.ev hst.appF rfl fun hS => ?_))
          replace hS : Ss _ _ _ H [] F _ _ := hS
          refine st1 hS (mv rfl) rfl fun a w hS => ?_
          refine st1 hS (ex rfl rfl) rfl fun a w hS => ?_
          refine st1 hS (ex rfl rfl) rfl fun a w hS => ?_
          refine st1 hS (ex rfl rfl) rfl fun a w hS => ?_
          refine st1 hS (asg rfl) rfl fun a w hS => ?_
          refine st1 hS (asg rfl) rfl fun a w hS => ?_
          refine st1 hS (asg rfl) rfl fun a w hS => ?_
          refine wpList_nil ?_
          refine then_n ?_
          refine wp_seq ?_
          refine wp_region_list ?_
          refine st1 hS (mv rfl) rfl fun a w hS => ?_
          refine st1 hS (bin rfl rfl rfl) rfl fun a w hS => ?_
          refine st1 hS (mv rfl) rfl fun a w hS => ?_
          refine seg_cutJ (fun a w => ∃ (v3542 : Bool), Ss 71 [] [(70, .bool v3542)] H [] F a w ∧ (mortiselaw07_InflateLimits.j2 K v3542).wp kr kp) 2 (fun J3543 hJ3543 => ?_) ?_
          · refine ifB (b := (x3539 == (11 : Int))) hM (fun hb3540 hM => ?_) (fun hb3540 hM => ?_)
            · replace hS := hS.re 67 (v := .bool true) rfl (congrArg Value.bool hb3540)
              replace hS := hS.re 68 (v := .bool true) rfl (congrArg Value.bool hb3540)
              refine unguard hS rfl rfl rfl rfl ?_
              refine s_call hS rfl Tryd.call9 (mortiselaw07_live_c hG K  (hS.st.part 0 [] (by kernel_rfl)) (wp_bind hM) (fun x3541 w hM  hst => s_back hS.ev hst.appF rfl fun hS => ?_))
              replace hS : Ss _ _ _ H [] F _ _ := hS
              refine st1 hS (pk rfl rfl rfl) rfl fun a w hS => ?_
              refine wpList_nil ?_
              refine then_n ?_
              exact hJ3543 _ _ ⟨x3541, hS.to [] (by kernel_rfl) ⟨rfl, trivial⟩, hM⟩
            · replace hS := hS.re 67 (v := .bool false) rfl (congrArg Value.bool hb3540)
              replace hS := hS.re 68 (v := .bool false) rfl (congrArg Value.bool hb3540)
              refine skips 1 hS rfl fun a w hS => ?_
              refine st1 hS (pk rfl rfl rfl) rfl fun a w hS => ?_
              refine wpList_nil ?_
              refine then_n ?_
              exact hJ3543 _ _ ⟨false, hS.to [] (by kernel_rfl) ⟨rfl, trivial⟩, hM⟩
          · intro a w hI
            obtain ⟨v3542, hS, hM⟩ := hI
            rw [mortiselaw07_InflateLimits.j2] at hM
            refine st1 hS (asg rfl) rfl fun a w hS => ?_
            refine wpList_nil ?_
            refine then_n ?_
            refine wp_ret ?_
            exact s_ret (rs := [2]) hS rfl rfl (hret v3542 w hM (hS.st.pick [] (by kernel_rfl)))

theorem mortiselaw07_InflateAhead_c {H : Imm} {F : List Frag} {w : World} {R : Ending → World → Prop} {kr : Bool → Prop} {kp : Value → Prop} (hG : Gl H) (K : Nat) (s3545 : List UInt8) (ahead3546 : List UInt8)
    (hS : St w H [] F) (hm : (mortiselaw07_InflateAhead.m K s3545 ahead3546).wp kr kp)
    (hret : ∀ (x3572 : Bool) (w : World), kr x3572 → St w H [] F → R (.returned (.bool x3572)) w) :
    Calls Tryd.prog 8 ⟨[str s3545, str ahead3546]⟩ w R := by
  refine enter Tryd.func8 rfl Tryd.ntmps8 rfl hS fun a w hS => ?_
  have hM := hm; clear hm
  rw [mortiselaw07_InflateAhead.m] at hM
  refine wp_seq ?_
  refine wp_region_list ?_
  refine st1 hS (asg rfl) rfl fun a w hS => ?_
  refine wpList_nil ?_
  refine then_n ?_
  refine wp_seq ?_
  refine wp_seq ?_
  refine wp_region_list ?_
  refine st1 hS (mv rfl) rfl fun a w hS => ?_
  refine st1 hS (lenS rfl Tryd.runUnderlying9) rfl fun a w hS => ?_
  refine st1 hS (bin rfl rfl rfl) rfl fun a w hS => ?_
  refine st1 hS (mv rfl) rfl fun a w hS => ?_
  refine g_op 3 false 16 (b := (decide ((s3545.length : Int) > (20000 : Int)))) (r := (decide ((ahead3546.length : Int) > (20000 : Int)))) hS rfl rfl rfl rfl rfl rfl rfl (fun hb a w hS K hK => ?_) rfl fun a w hS => ?_
  · refine st1g hS rfl rfl rfl hb (mv rfl) rfl fun a w hS => ?_
    refine st1g hS rfl rfl rfl hb (lenS rfl Tryd.runUnderlying9) rfl fun a w hS => ?_
    refine st1g hS rfl rfl rfl hb (bin rfl rfl rfl) rfl fun a w hS => ?_
    exact wpList_nil (hK _ _ (hS.up 3 rfl rfl))
  refine wpList_nil ?_
  refine then_n ?_
  refine s_cond hS rfl hM (fun hb3547 hM => ?_) (fun hb3547 hM => ?_)
  · refine wp_seq ?_
    refine wp_region_list ?_
    refine s_call hS rfl Tryd.call9 (mortiselaw07_live_c hG K  (hS.st.part 0 [] (by kernel_rfl)) (wp_bind hM) (fun x3548 w hM  hst => s_back hS.ev hst.appF rfl fun hS => ?_))
    replace hS : Ss _ _ _ H [] F _ _ := hS
    refine st1 hS (asg rfl) rfl fun a w hS => ?_
    refine wpList_nil ?_
    refine then_n ?_
    refine wp_ret ?_
    refine then_ret ?_
    exact s_ret (rs := [4]) hS rfl rfl (hret x3548 w hM (hS.st.pick [] (by kernel_rfl)))
  · refine wp_skip ?_
    refine then_n ?_
    refine wp_seq ?_
    refine wp_region_list ?_
    refine st1 hS (mv rfl) rfl fun a w hS => ?_
    refine s_call hS rfl Tryd.call10 (inflate_Inflate_c hG K s3545 (100000 : Int) (hS.st.part 0 [] (by kernel_rfl)) (wp_bind hM) (fun x3549 x3550 x3551 w hM  hst => s_back hS.ev hst.appF rfl fun hS => ?_))
    replace hS : Ss _ _ _ H [] F _ _ := hS
    refine st1 hS (mv rfl) rfl fun a w hS => ?_
    refine st1 hS (ex rfl rfl) rfl fun a w hS => ?_
    refine st1 hS (ex rfl rfl) rfl fun a w hS => ?_
    refine st1 hS (ex rfl rfl) rfl fun a w hS => ?_
    refine st1 hS (asg rfl) rfl fun a w hS => ?_
    refine st1 hS (asg rfl) rfl fun a w hS => ?_
    refine st1 hS (asg rfl) rfl fun a w hS => ?_
    refine wpList_nil ?_
    refine then_n ?_
    refine wp_seq ?_
    refine wp_seq ?_
    refine wp_region_list ?_
    refine st1 hS (mv rfl) rfl fun a w hS => ?_
    refine st1 hS (bin rfl rfl rfl) rfl fun a w hS => ?_
    refine wpList_nil ?_
    refine then_n ?_
    refine s_cond hS rfl hM (fun hb3552 hM => ?_) (fun hb3552 hM => ?_)
    · refine wp_seq ?_
      refine wp_region_list ?_
      refine s_call hS rfl Tryd.call9 (mortiselaw07_live_c hG K  (hS.st.part 0 [] (by kernel_rfl)) (wp_bind hM) (fun x3553 w hM  hst => s_back hS.ev hst.appF rfl fun hS => ?_))
      replace hS : Ss _ _ _ H [] F _ _ := hS
      refine st1 hS (asg rfl) rfl fun a w hS => ?_
      refine wpList_nil ?_
      refine then_n ?_
      refine wp_ret ?_
      refine then_ret ?_
      exact s_ret (rs := [4]) hS rfl rfl (hret x3553 w hM (hS.st.pick [] (by kernel_rfl)))
    · refine wp_skip ?_
      refine then_n ?_
      refine wp_seq ?_
      refine wp_region_list ?_
      refine st1 hS (mv rfl) rfl fun a w hS => ?_
      refine st1 hS (lenS rfl Tryd.runUnderlying9) rfl fun a w hS => ?_
      refine st1x (v := Value.int .i64) hS (asg rfl) rfl fun k_3554 a w hz hS => ?_
      have hM := lt_to hz hM; clear hz
      refine wpList_nil ?_
      refine then_n ?_
      refine wp_seq ?_
      refine wp_region_list ?_
      refine st1 hS (mv rfl) rfl fun a w hS => ?_
      refine st1 hS (cvi rfl Tryd.runUnderlying3 Tryd.runUnderlying5) rfl fun a w hS => ?_
      refine st1 hS (mv rfl) rfl fun a w hS => ?_
      refine st1 hS (shr rfl rfl rfl) rfl fun a w hS => ?_
      refine st1 hS (cvi rfl Tryd.runUnderlying3 Tryd.runUnderlying5) rfl fun a w hS => ?_
      refine st1 hS (mv rfl) rfl fun a w hS => ?_
      refine st1 hS (bin rfl rfl rfl) rfl fun a w hS => ?_
      refine st1 hS (bin rfl rfl rfl) rfl fun a w hS => ?_
      refine st1 hS (cvi rfl Tryd.runUnderlying3 Tryd.runUnderlying5) rfl fun a w hS => ?_
      refine st1 hS (mv rfl) rfl fun a w hS => ?_
      refine st1 hS (shr rfl rfl rfl) rfl fun a w hS => ?_
      refine st1 hS (bin rfl rfl rfl) rfl fun a w hS => ?_
      refine st1 hS (cvi rfl Tryd.runUnderlying3 Tryd.runUnderlying5) rfl fun a w hS => ?_
      refine bsl (g := (ci .u8)) ([(0 : Int), (wr .u8 k_3554), (wr .u8 (ishr .i64 k_3554 (8 : Int))), (wr .u8 (w64 ((255 : Int) - (iand .i64 k_3554 (255 : Int))))), (wr .u8 (w64 ((255 : Int) - (ishr .i64 k_3554 (8 : Int)))))] : List Int) [.int .u8 (0 : Int), .int .u8 (wr .u8 k_3554), .int .u8 (wr .u8 (ishr .i64 k_3554 (8 : Int))), .int .u8 (wr .u8 (w64 ((255 : Int) - (iand .i64 k_3554 (255 : Int))))), .int .u8 (wr .u8 (w64 ((255 : Int) - (ishr .i64 k_3554 (8 : Int)))))] hS Tryd.runUnderlying30 Tryd.sizeOf5 X.el5 rfl rfl rfl (by simp [Value.cells]) rfl rfl rfl rfl rfl fun w A3555 c3556 f3557 hV3558 hS => ?_
      refine st1 hS (cbs rfl Tryd.runUnderlying30 Tryd.runUnderlying5 Tryd.runUnderlying9 (hV3558.rd (i := 0) rfl)) rfl fun a w hS => ?_
      refine st1 hS (mv rfl) rfl fun a w hS => ?_
      obtain ⟨hk3559, hM⟩ := wp_chk hM
      refine st1 hS (cat rfl rfl hk3559) rfl fun a w hS => ?_
      refine st1 hS (mv rfl) rfl fun a w hS => ?_
      obtain ⟨hk3560, hM⟩ := wp_chk hM
      refine st1 hS (cat rfl rfl hk3560) rfl fun a w hS => ?_
      refine st1x (v := str) hS (asg rfl) rfl fun t3561 a w hz hS => ?_
      have hM := lt_to hz hM; clear hz
      refine wpList_nil ?_
      refine then_n ?_
      refine wp_seq ?_
      refine wp_region_list ?_
      refine st1 hS (mv rfl) rfl fun a w hS => ?_
      refine s_call hS rfl Tryd.call10 (inflate_Inflate_c hG K t3561 (150000 : Int) (hS.st.part 0 [0] (by kernel_rfl)) (wp_bind hM) (fun x3562 x3563 x3564 w hM  hst => s_back hS.ev hst.appF rfl fun hS => ?_))
      replace hS : Ss _ _ _ H [f3557] F _ _ := hS
      refine st1 hS (mv rfl) rfl fun a w hS => ?_
      refine st1 hS (ex rfl rfl) rfl fun a w hS => ?_
      refine st1 hS (ex rfl rfl) rfl fun a w hS => ?_
      refine st1 hS (ex rfl rfl) rfl fun a w hS => ?_
      refine st1 hS (asg rfl) rfl fun a w hS => ?_
      refine st1 hS (asg rfl) rfl fun a w hS => ?_
      refine st1 hS (asg rfl) rfl fun a w hS => ?_
      refine wpList_nil ?_
      refine then_n ?_
      refine wp_seq ?_
      refine wp_region_list ?_
      refine st1 hS (mv rfl) rfl fun a w hS => ?_
      refine st1 hS (bin rfl rfl rfl) rfl fun a w hS => ?_
      refine st1 hS (mv rfl) rfl fun a w hS => ?_
      obtain ⟨hk3567, hM⟩ := wp_chk hM
      refine g_op 5 true 60 (b := (x3564 == (0 : Int))) (r := (x3562 == (ahead3546 ++ x3549))) hS rfl rfl rfl rfl rfl rfl rfl (fun hb a w hS K hK => ?_) rfl fun a w hS => ?_
      · refine st1g hS rfl rfl rfl hb (mv rfl) rfl fun a w hS => ?_
        refine st1g hS rfl rfl rfl hb (mv rfl) rfl fun a w hS => ?_
        refine st1g hS rfl rfl rfl hb (mv rfl) rfl fun a w hS => ?_
        have hk3566 := imp_of hk3567 hb
        refine st1g hS rfl rfl rfl hb (cat rfl rfl hk3566) rfl fun a w hS => ?_
        refine st1g hS rfl rfl rfl hb (bins rfl rfl rfl) rfl fun a w hS => ?_
        exact wpList_nil (hK _ _ (hS.up 5 rfl rfl))
      refine st1 hS (mv rfl) rfl fun a w hS => ?_
      refine g_op 6 true 67 (b := ((x3564 == (0 : Int)) && (x3562 == (ahead3546 ++ x3549)))) (r := (x3563 == (w64 ((w64 ((5 : Int) + k_3554)) + x3550)))) hS rfl rfl rfl rfl rfl rfl rfl (fun hb a w hS K hK => ?_) rfl fun a w hS => ?_
      · refine st1g hS rfl rfl rfl hb (mv rfl) rfl fun a w hS => ?_
        refine st1g hS rfl rfl rfl hb (mv rfl) rfl fun a w hS => ?_
        refine st1g hS rfl rfl rfl hb (bin rfl rfl rfl) rfl fun a w hS => ?_
        refine st1g hS rfl rfl rfl hb (mv rfl) rfl fun a w hS => ?_
        refine st1g hS rfl rfl rfl hb (bin rfl rfl rfl) rfl fun a w hS => ?_
        refine st1g hS rfl rfl rfl hb (bin rfl rfl rfl) rfl fun a w hS => ?_
        exact wpList_nil (hK _ _ (hS.up 6 rfl rfl))
      refine st1 hS (mv rfl) rfl fun a w hS => ?_
      refine seg_cutJ (fun a w => ∃ (v3570 : Bool), Ss 78 [] [(77, .bool v3570)] H [] F a w ∧ (mortiselaw07_InflateAhead.j1 K v3570).wp kr kp) 2 (fun J3571 hJ3571 => ?_) ?_
      · refine ifB (b := (((x3564 == (0 : Int)) && (x3562 == (ahead3546 ++ x3549))) && (x3563 == (w64 ((w64 ((5 : Int) + k_3554)) + x3550))))) hM (fun hb3568 hM => ?_) (fun hb3568 hM => ?_)
        · replace hS := hS.re 74 (v := .bool true) rfl (congrArg Value.bool hb3568)
          replace hS := hS.re 75 (v := .bool true) rfl (congrArg Value.bool hb3568)
          refine unguard hS rfl rfl rfl rfl ?_
          refine s_call hS rfl Tryd.call9 (mortiselaw07_live_c hG K  (hS.st.part 0 [0] (by kernel_rfl)) (wp_bind hM) (fun x3569 w hM  hst => s_back hS.ev hst.appF rfl fun hS => ?_))
          replace hS : Ss _ _ _ H [f3557] F _ _ := hS
          refine st1 hS (pk rfl rfl rfl) rfl fun a w hS => ?_
          refine wpList_nil ?_
          refine then_n ?_
          exact hJ3571 _ _ ⟨x3569, hS.to [] (by kernel_rfl) ⟨rfl, trivial⟩, hM⟩
        · replace hS := hS.re 74 (v := .bool false) rfl (congrArg Value.bool hb3568)
          replace hS := hS.re 75 (v := .bool false) rfl (congrArg Value.bool hb3568)
          refine skips 1 hS rfl fun a w hS => ?_
          refine st1 hS (pk rfl rfl rfl) rfl fun a w hS => ?_
          refine wpList_nil ?_
          refine then_n ?_
          exact hJ3571 _ _ ⟨false, hS.to [] (by kernel_rfl) ⟨rfl, trivial⟩, hM⟩
      · intro a w hI
        obtain ⟨v3570, hS, hM⟩ := hI
        rw [mortiselaw07_InflateAhead.j1] at hM
        refine st1 hS (asg rfl) rfl fun a w hS => ?_
        refine wpList_nil ?_
        refine then_n ?_
        refine wp_ret ?_
        exact s_ret (rs := [4]) hS rfl rfl (hret v3570 w hM (hS.st.pick [] (by kernel_rfl)))
end Go.TrydS
