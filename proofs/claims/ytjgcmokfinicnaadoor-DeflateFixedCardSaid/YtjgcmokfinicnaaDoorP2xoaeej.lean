/- Printed by a program of mine: each Go function answers what its model answers; conditions: what each theorem asks of memory. -/
import Derived.Test.YtjgcmokfinicnaaDoorP1xhiiil
set_option linter.unusedVariables false
set_option linter.unusedSimpArgs false
set_option maxRecDepth 100000
namespace Go.TrydS
open Go Go.Sl Go.Mo Go.Proofs
attribute [local irreducible] Res.wp
theorem slices_symMergeCmpFunc_huff_packet__b6e1_7e8b_cr (K : Nat) : ∀ (d : Nat) {H : Imm} {F : List Frag} {w : World} {R : Ending → World → Prop} {kr : (List T_huff_packet) → Prop} {kp : Value → Prop} (hG : Gl H) (data2523 : List T_huff_packet) (a_2531 : Int) (m2532 : Int) (b_2533 : Int) (p2524 : Frag) (A2525 : Option Addr) (c2526 : Nat) (rw2527 : List (Row 2)) (f2529 : Frag) (hr2528 : RelL (R_huff_packet p2524) data2523 rw2527) (hV2530 : Vec 112 (Row.v (sz := 2)) 2 A2525 rw2527 c2526 f2529)
    (hS : St w H [p2524, f2529] F) (hm : (slices_symMergeCmpFunc_huff_packet__b6e1_7e8b.r K d data2523 a_2531 m2532 b_2533).wp kr kp)
    (hret : ∀ (rw2858 : List (Row 2)) (data2859 : (List T_huff_packet)) (f2860 : Frag) (w : World), kr data2859 → (Vec 112 (Row.v (sz := 2)) 2 A2525 rw2858 c2526 f2860) → (RelL (R_huff_packet p2524) data2859 rw2858) → (rw2858.length = rw2527.length) → St w H [p2524, f2860] F → R (.returned (.tuple ⟨[]⟩)) w),
    Calls Tryd.prog 100 ⟨[.slice A2525 rw2527.length c2526, .int .i64 a_2531, .int .i64 m2532, .int .i64 b_2533, fnv 57 [] []]⟩ w R := by
  intro d
  induction d with
  | zero => intro H F w R kr kp hG data2523 a_2531 m2532 b_2533 p2524 A2525 c2526 rw2527 f2529 hr2528 hV2530 hS hm hret; exact (wp_fail hm).elim
  | succ d ih =>
  intro H F w R kr kp hG data2523 a_2531 m2532 b_2533 p2524 A2525 c2526 rw2527 f2529 hr2528 hV2530 hS hm hret
  have hM := hm; clear hm
  rw [slices_symMergeCmpFunc_huff_packet__b6e1_7e8b.r] at hM; rw [slices_symMergeCmpFunc_huff_packet__b6e1_7e8b.b] at hM
  refine enter Tryd.func100 rfl Tryd.ntmps100 rfl hS fun a w hS => ?_
  have hs2534 : ∀ q ∈ p2524, q ∈ p2524 := fun _ h => h
  have hz2535 : rw2527.length = rw2527.length := rfl
  refine seq_joinJ (fun a w => Ss 220 [] [(0, .slice A2525 rw2527.length c2526), (1, .int .i64 a_2531), (2, .int .i64 m2532), (3, .int .i64 b_2533), (4, fnv 57 [] [])] H [p2524, f2529] F a w ∧ (slices_symMergeCmpFunc_huff_packet__b6e1_7e8b.j4 K (slices_symMergeCmpFunc_huff_packet__b6e1_7e8b.r K d) data2523 a_2531 m2532 b_2533).wp kr kp) (fun J2660 hJ2660 => ?_) ?_
  ·refine wp_seq ?_
   refine wp_region_list <| st1 hS (mv rfl) rfl fun a w hS => st1 hS (mv rfl) rfl fun a w hS => st1 hS (bin rfl rfl rfl) rfl fun a w hS => st1 hS (bin rfl rfl rfl) rfl fun a w hS => wpList_nil <| then_n <| s_cond hS rfl hM (fun hb2536 hM => ?_) (fun hb2536 hM => ?_)
   ·refine wp_seq ?_
    refine wp_region_list <| st1 hS (mv rfl) rfl fun a w hS => st1 hS (asg rfl) rfl fun a w hS => wpList_nil <| then_n <| wp_seq <| wp_region_list <| st1 hS (mv rfl) rfl fun a w hS => st1 hS (asg rfl) rfl fun a w hS => wpList_nil <| then_n <| seq_joinJ (fun a w => ∃ (i2560 : Int), Ss 220 [] [(0, .slice A2525 rw2527.length c2526), (1, .int .i64 a_2531), (10, .int .i64 i2560)] H [p2524, f2529] F a w ∧ (slices_symMergeCmpFunc_huff_packet__b6e1_7e8b.j2 K (slices_symMergeCmpFunc_huff_packet__b6e1_7e8b.r K d) data2523 a_2531 i2560).wp kr kp) (fun J2561 hJ2561 => ?_) ?_
    ·refine wp_block ?_
     refine s_loopJ (fun k2539 a w => ∃ (i2537 : Int) (j2538 : Int), Ss 220 [] [(0, .slice A2525 rw2527.length c2526), (1, .int .i64 a_2531), (4, fnv 57 [] []), (10, .int .i64 i2537), (11, .int .i64 j2538)] H [p2524, f2529] F a w ∧ (slices_symMergeCmpFunc_huff_packet__b6e1_7e8b.l1 K (slices_symMergeCmpFunc_huff_packet__b6e1_7e8b.r K d) data2523 a_2531 k2539 i2537 j2538).wp kr kp) K ?_ ?_ ?_
     ·exact ⟨m2532, b_2533, hS.to [0, 1] (by kernel_rfl) ⟨rfl, rfl, rfl, rfl, rfl, trivial⟩, hM⟩
     ·intro a w hI; obtain ⟨_, _, _, hM⟩ := hI; exact wp_fail hM
     ·intro k2539 a w hI J2559 hJ2559
      obtain ⟨i2537, j2538, hS, hM⟩ := hI
      rw [slices_symMergeCmpFunc_huff_packet__b6e1_7e8b.l1] at hM
      refine wp_seq <| wp_seq <| wp_region_list <| st1 hS (mv rfl) rfl fun a w hS => st1 hS (mv rfl) rfl fun a w hS => st1 hS (bin rfl rfl rfl) rfl fun a w hS => wpList_nil <| then_n <| s_cond hS rfl hM (fun hb2540 hM => ?_) (fun hb2540 hM => ?_)
      ·refine wp_skip ?_
       refine then_n <| wp_block <| wp_seq <| wp_region_list <| st1 hS (mv rfl) rfl fun a w hS => st1 hS (mv rfl) rfl fun a w hS => st1 hS (bin rfl rfl rfl) rfl fun a w hS => st1 hS (cvi rfl Tryd.runUnderlying3 Tryd.runUnderlying39) rfl fun a w hS => st1 hS (shr rfl rfl rfl) rfl fun a w hS => st1 hS (cvi rfl Tryd.runUnderlying39 Tryd.runUnderlying3) rfl fun a w hS => st1x (v := Value.int .i64) (x0 := (wr .i64 (ishr .u64 (wr .u64 (w64 (i2537 + j2538))) (1 : Int)))) hS (asg rfl) rfl fun h2541 a w hz hS => ?_
       have hM := lt_to hz hM; clear hz
       refine wpList_nil <| then_n <| wp_seq ?_
       obtain ⟨hk2543, hM⟩ := wp_chk hM
       obtain ⟨A2544, c2545, hw2548, hp2546, hc2547⟩ := hr2528.get hk2543
       obtain ⟨hk2550, hM⟩ := wp_chk hM
       obtain ⟨A2551, c2552, hw2555, hp2553, hc2554⟩ := hr2528.get hk2550
       refine draw_begin (vals := [some (fnv 57 [] []), some (.slice A2525 rw2527.length c2526), some (.int .i64 h2541), some (slp A2525 (Int.toNat h2541 * 2)), some (.agg ⟨[.int .i64 ((rd data2523 h2541).often_), .slice A2544 ((rd data2523 h2541).symbols_).length c2545]⟩), some (.slice A2525 rw2527.length c2526), some (.int .i64 a_2531), some (slp A2525 (Int.toNat a_2531 * 2)), some (.agg ⟨[.int .i64 ((rd data2523 a_2531).often_), .slice A2551 ((rd data2523 a_2531).symbols_).length c2552]⟩), none, none]) hS mixed rfl ?_
       intro l w ho hcl hA hst
       refine phq hA hst ho hcl navail nmust 9 [0, 1, 2, 3, 4, 5, 6, 7, 8] rfl rfl rfl rfl rfl (by exact ⟨nR rfl rfl rfl rfl rfl (by exact ovE (mv rfl) rfl), nR rfl rfl rfl rfl rfl (by exact ovE (mv rfl) rfl), nR rfl rfl rfl rfl rfl (by exact ovE (mv rfl) rfl), nR rfl rfl rfl rfl rfl (by exact ovE (ixV rfl rfl Tryd.runUnderlying110 Tryd.sizeOf112 (hV2530.rd (i := 1) rfl) Row.len rfl (hr2528.inb hk2543)) rfl), nR rfl rfl rfl rfl rfl (by exact ovE (ovE (ldVA rfl (hV2530.rd (i := 1) rfl) Row.len (hr2528.inb hk2543) Tryd.isAgg112 Tryd.sizeOf112 rfl) (congrArg (fun l => Value.agg ⟨l⟩) hw2548)) rfl), nR rfl rfl rfl rfl rfl (by exact ovE (mv rfl) rfl), nR rfl rfl rfl rfl rfl (by exact ovE (mv rfl) rfl), nR rfl rfl rfl rfl rfl (by exact ovE (ixV rfl rfl Tryd.runUnderlying110 Tryd.sizeOf112 (hV2530.rd (i := 1) rfl) Row.len rfl (hr2528.inb hk2550)) rfl), nR rfl rfl rfl rfl rfl (by exact ovE (ovE (ldVA rfl (hV2530.rd (i := 1) rfl) Row.len (hr2528.inb hk2550) Tryd.isAgg112 Tryd.sizeOf112 rfl) (congrArg (fun l => Value.agg ⟨l⟩) hw2555)) rfl), trivial⟩) fun D l a w ho hcl hav hpre hm hE hk hA hst => ?_
       have hS := (Ss.mk hE hst).env2 (e' := [(40, fnv 57 [] []), (44, .agg ⟨[.int .i64 ((rd data2523 h2541).often_), .slice A2544 ((rd data2523 h2541).symbols_).length c2545]⟩), (48, .agg ⟨[.int .i64 ((rd data2523 a_2531).often_), .slice A2551 ((rd data2523 a_2531).symbols_).length c2552]⟩)]) ⟨rfl, rfl, rfl, trivial⟩
       refine op_of_nth rfl <| s_callV hS rfl rfl Tryd.call57 (huff_Lengths_2_c hG K (T_huff_packet.mk ((rd data2523 h2541).often_) ((rd data2523 h2541).symbols_)) (T_huff_packet.mk ((rd data2523 a_2531).often_) ((rd data2523 a_2531).symbols_)) A2544 c2545 A2551 c2552 (hp2546.rdF (i := 0) rfl) hc2547 (hp2553.rdF (i := 0) rfl) hc2554 (hS.st.part 0 [0, 1] (by kernel_rfl)) (wp_bind hM) (fun x2556 w hM  hst => s_back hS.ev hst.appF rfl fun hS => ?_))
       replace hS : Ss _ _ _ H [p2524, f2529] F _ _ := hS
       refine wpList_nil (then_n ?_)
       replace hst := hS.st
       obtain ⟨hcl, hmust, hav2, hA⟩ := dn (vals' := [some (fnv 57 [] []), some (.slice A2525 rw2527.length c2526), some (.int .i64 h2541), some (slp A2525 (Int.toNat h2541 * 2)), some (.agg ⟨[.int .i64 ((rd data2523 h2541).often_), .slice A2544 ((rd data2523 h2541).symbols_).length c2545]⟩), some (.slice A2525 rw2527.length c2526), some (.int .i64 a_2531), some (slp A2525 (Int.toNat a_2531 * 2)), some (.agg ⟨[.int .i64 ((rd data2523 a_2531).often_), .slice A2551 ((rd data2523 a_2531).symbols_).length c2552]⟩), some (.int .i64 x2556), some (.bool (decide (x2556 < (0 : Int))))]) 9 [(0, 9), (4, 9), (8, 9), (3, 4), (7, 8), (1, 3), (2, 3), (5, 7), (6, 7)] hA hcl hav hm hpre hk rfl rfl rfl rfl rfl rfl rfl
       clear hm hav
       refine phqE hA hst ho hcl hmust [10] rfl rfl rfl (by exact ⟨nR rfl rfl rfl rfl rfl (by exact ovE (bin rfl rfl rfl) rfl), trivial⟩) fun a w hS => ?_
       replace hS := hS.env2 (e' := [(0, .slice A2525 rw2527.length c2526), (1, .int .i64 a_2531), (4, fnv 57 [] []), (10, .int .i64 i2537), (11, .int .i64 j2538), (12, .int .i64 h2541), (50, .bool (decide (x2556 < (0 : Int))))]) ⟨rfl, rfl, rfl, rfl, rfl, rfl, rfl, trivial⟩
       refine then_n <| s_cond hS rfl hM (fun hb2557 hM => ?_) (fun hb2557 hM => ?_)
       ·refine wp_region_list ?_
        refine st1 hS (mv rfl) rfl fun a w hS => st1 hS (bin rfl rfl rfl) rfl fun a w hS => st1x (v := Value.int .i64) (x0 := (w64 (h2541 + (1 : Int)))) hS (asg rfl) rfl fun i2558 a w hz hS => ?_
        have hM := lt_to hz hM; clear hz
        refine wpList_nil <| blk_n (then_n ?_)
        exact hJ2559 _ _ ⟨i2558, j2538, hS.to [0, 1] (by kernel_rfl) ⟨rfl, rfl, rfl, rfl, rfl, trivial⟩, hM⟩
       ·refine wp_region_list ?_
        refine st1 hS (mv rfl) rfl fun a w hS => st1 hS (asg rfl) rfl fun a w hS => wpList_nil <| blk_n (then_n ?_)
        exact hJ2559 _ _ ⟨i2537, h2541, hS.to [0, 1] (by kernel_rfl) ⟨rfl, rfl, rfl, rfl, rfl, trivial⟩, hM⟩
      ·refine wp_exit ?_
       refine then_ex (then_ex (blk_same (then_n ?_)))
       exact hJ2561 _ _ ⟨i2537, hS.to [0, 1] (by kernel_rfl) ⟨rfl, rfl, rfl, trivial⟩, hM⟩
    ·intro a w hI
     obtain ⟨i2560, hS, hM⟩ := hI
     rw [slices_symMergeCmpFunc_huff_packet__b6e1_7e8b.j2] at hM
     refine wp_seq <| wp_seq <| wp_region_list <| st1 hS (mv rfl) rfl fun a w hS => st1 hS (asg rfl) rfl fun a w hS => wpList_nil <| then_n <| wp_block <| s_loopJ (fun k2618 a w => ∃ (rw2611 : List (Row 2)) (data2612 : (List T_huff_packet)) (f2613 : Frag) (k_2617 : Int), Ss 220 [] [(0, .slice A2525 rw2611.length c2526), (10, .int .i64 i2560), (13, .int .i64 k_2617)] H [p2524, f2613] F a w ∧ (Vec 112 (Row.v (sz := 2)) 2 A2525 rw2611 c2526 f2613) ∧ (RelL (R_huff_packet p2524) data2612 rw2611) ∧ (rw2611.length = rw2527.length) ∧ (slices_symMergeCmpFunc_huff_packet__b6e1_7e8b.l3 K (slices_symMergeCmpFunc_huff_packet__b6e1_7e8b.r K d) i2560 k2618 data2612 k_2617).wp kr kp) K ?_ ?_ ?_
     ·exact ⟨rw2527, data2523, f2529, a_2531, hS.to [0, 1] (by kernel_rfl) ⟨rfl, rfl, rfl, trivial⟩, hV2530, hr2528, hz2535, hM⟩
     ·intro a w hI; obtain ⟨_, _, _, _, _, _, _, _, hM⟩ := hI; exact wp_fail hM
     ·intro k2618 a w hI J2659 hJ2659
      obtain ⟨rw2611, data2612, f2613, k_2617, hS, hV2614, hr2615, hz2616, hM⟩ := hI
      rw [slices_symMergeCmpFunc_huff_packet__b6e1_7e8b.l3] at hM
      refine wp_seq <| wp_seq <| wp_region_list <| st1 hS (mv rfl) rfl fun a w hS => st1 hS (mv rfl) rfl fun a w hS => st1 hS (bin rfl rfl rfl) rfl fun a w hS => st1 hS (bin rfl rfl rfl) rfl fun a w hS => wpList_nil <| then_n <| s_cond hS rfl hM (fun hb2619 hM => ?_) (fun hb2619 hM => ?_)
      ·refine wp_skip ?_
       refine then_n <| wp_seq <| wp_block ?_
       obtain ⟨hk2621, hM⟩ := wp_chk hM
       obtain ⟨A2622, c2623, hw2626, hp2624, hc2625⟩ := hr2615.get hk2621
       obtain ⟨hk2628, hM⟩ := wp_chk hM
       obtain ⟨A2629, c2630, hw2633, hp2631, hc2632⟩ := hr2615.get hk2628
       refine draw_begin (vals := [some (.slice A2525 rw2611.length c2526), some (.int .i64 k_2617), some (.slice A2525 rw2611.length c2526), some (.int .i64 k_2617), some (.int .i64 (w64 (k_2617 + (1 : Int)))), some (.slice A2525 rw2611.length c2526), some (.int .i64 k_2617), some (.int .i64 (w64 (k_2617 + (1 : Int)))), some (slp A2525 (Int.toNat (w64 (k_2617 + (1 : Int))) * 2)), some (.agg ⟨[.int .i64 ((rd data2612 (w64 (k_2617 + (1 : Int)))).often_), .slice A2622 ((rd data2612 (w64 (k_2617 + (1 : Int)))).symbols_).length c2623]⟩), some (.slice A2525 rw2611.length c2526), some (.int .i64 k_2617), some (slp A2525 (Int.toNat k_2617 * 2)), some (.agg ⟨[.int .i64 ((rd data2612 k_2617).often_), .slice A2629 ((rd data2612 k_2617).symbols_).length c2630]⟩), some (slp A2525 (Int.toNat k_2617 * 2)), none, none, none]) hS mixed rfl ?_
       intro l w ho hcl hA hst
       refine phq hA hst ho hcl navail nmust 15 [0, 1, 2, 3, 4, 5, 6, 7, 8, 9, 10, 11, 12, 13, 14] rfl rfl rfl rfl rfl (by exact ⟨nR rfl rfl rfl rfl rfl (by exact ovE (mv rfl) rfl), nR rfl rfl rfl rfl rfl (by exact ovE (mv rfl) rfl), nR rfl rfl rfl rfl rfl (by exact ovE (mv rfl) rfl), nR rfl rfl rfl rfl rfl (by exact ovE (mv rfl) rfl), nR rfl rfl rfl rfl rfl (by exact ovE (bin rfl rfl rfl) rfl), nR rfl rfl rfl rfl rfl (by exact ovE (mv rfl) rfl), nR rfl rfl rfl rfl rfl (by exact ovE (mv rfl) rfl), nR rfl rfl rfl rfl rfl (by exact ovE (bin rfl rfl rfl) rfl), nR rfl rfl rfl rfl rfl (by exact ovE (ixV rfl rfl Tryd.runUnderlying110 Tryd.sizeOf112 (hV2614.rd (i := 1) rfl) Row.len rfl (hr2615.inb hk2621)) rfl), nR rfl rfl rfl rfl rfl (by exact ovE (ovE (ldVA rfl (hV2614.rd (i := 1) rfl) Row.len (hr2615.inb hk2621) Tryd.isAgg112 Tryd.sizeOf112 rfl) (congrArg (fun l => Value.agg ⟨l⟩) hw2626)) rfl), nR rfl rfl rfl rfl rfl (by exact ovE (mv rfl) rfl), nR rfl rfl rfl rfl rfl (by exact ovE (mv rfl) rfl), nR rfl rfl rfl rfl rfl (by exact ovE (ixV rfl rfl Tryd.runUnderlying110 Tryd.sizeOf112 (hV2614.rd (i := 1) rfl) Row.len rfl (hr2615.inb hk2628)) rfl), nR rfl rfl rfl rfl rfl (by exact ovE (ovE (ldVA rfl (hV2614.rd (i := 1) rfl) Row.len (hr2615.inb hk2628) Tryd.isAgg112 Tryd.sizeOf112 rfl) (congrArg (fun l => Value.agg ⟨l⟩) hw2633)) rfl), nR rfl rfl rfl rfl rfl (by exact ovE (ixV rfl rfl Tryd.runUnderlying110 Tryd.sizeOf112 (hV2614.rd (i := 1) rfl) Row.len rfl (hr2615.inb hk2628)) rfl), trivial⟩) fun D l a w ho hcl hav hpre hm hE hk hA hst => ?_
       have hS := (Ss.mk hE hst).env2 (e' := [(70, .agg ⟨[.int .i64 ((rd data2612 (w64 (k_2617 + (1 : Int)))).often_), .slice A2622 ((rd data2612 (w64 (k_2617 + (1 : Int)))).symbols_).length c2623]⟩), (75, slp A2525 (Int.toNat k_2617 * 2))]) ⟨rfl, rfl, trivial⟩
       refine op_of_nth rfl <| stVR (i := k_2617) (sz := 2) 1 (⟨[.int .i64 ((rd data2612 (w64 (k_2617 + (1 : Int)))).often_), .slice A2622 ((rd data2612 (w64 (k_2617 + (1 : Int)))).symbols_).length c2623], by simp, by simp [Value.oneCell']⟩ : Row 2) hS rfl rfl hV2614 rfl Tryd.sizeOf112 rfl (hr2615.inb hk2628) fun rw2640 w f2638 hz hV2639 hS => ?_
       obtain ⟨zs2641, hzm⟩ := nameE (data2612.set (Int.toNat k_2617) (T_huff_packet.mk ((rd data2612 (w64 (k_2617 + (1 : Int)))).often_) ((rd data2612 (w64 (k_2617 + (1 : Int)))).symbols_)))
       replace hM := lt_to hzm hM
       have hr2642 := RelL.set (x := (T_huff_packet.mk ((rd data2612 (w64 (k_2617 + (1 : Int)))).often_) ((rd data2612 (w64 (k_2617 + (1 : Int)))).symbols_))) (r := (⟨[.int .i64 ((rd data2612 (w64 (k_2617 + (1 : Int)))).often_), .slice A2622 ((rd data2612 (w64 (k_2617 + (1 : Int)))).symbols_).length c2623], by simp, by simp [Value.oneCell']⟩ : Row 2)) (Int.toNat k_2617) hr2615 (show R_huff_packet p2524 _ _ from ⟨A2622, c2623, rfl, hp2624, hc2625⟩)
       have hz2643 : rw2640.length = rw2611.length := by rw [hz]; exact List.length_set ..
       rw [← hz, ← hzm] at hr2642; clear hz hzm
       have hz2644 := Eq.trans hz2643 hz2616
       refine wpList_nil (then_n ?_)
       replace hst := hS.st
       obtain ⟨hk2646, hM⟩ := wp_chk hM
       obtain ⟨hcl, hmust, hav2, hA⟩ := dnN (vals' := [some (.slice A2525 rw2611.length c2526), some (.int .i64 k_2617), some (.slice A2525 rw2611.length c2526), some (.int .i64 k_2617), some (.int .i64 (w64 (k_2617 + (1 : Int)))), some (.slice A2525 rw2611.length c2526), some (.int .i64 k_2617), some (.int .i64 (w64 (k_2617 + (1 : Int)))), some (slp A2525 (Int.toNat (w64 (k_2617 + (1 : Int))) * 2)), some (.agg ⟨[.int .i64 ((rd data2612 (w64 (k_2617 + (1 : Int)))).often_), .slice A2622 ((rd data2612 (w64 (k_2617 + (1 : Int)))).symbols_).length c2623]⟩), some (.slice A2525 rw2611.length c2526), some (.int .i64 k_2617), some (slp A2525 (Int.toNat k_2617 * 2)), some (.agg ⟨[.int .i64 ((rd data2612 k_2617).often_), .slice A2629 ((rd data2612 k_2617).symbols_).length c2630]⟩), some (slp A2525 (Int.toNat k_2617 * 2)), some undef, some (slp A2525 (Int.toNat (w64 (k_2617 + (1 : Int))) * 2)), none]) 15 [(0, 15), (1, 15), (5, 15), (6, 15), (7, 15), (8, 15), (9, 15), (13, 15), (14, 15), (12, 13), (10, 12), (11, 12)] hA hcl hav hm hpre rfl rfl rfl rfl rfl
       clear hm hav
       refine phq hA hst ho hcl hav2 hmust 17 [2, 3, 4, 16] rfl rfl rfl rfl rfl (by exact ⟨nR rfl rfl rfl rfl rfl (by exact ovE (mv rfl) rfl), nR rfl rfl rfl rfl rfl (by exact ovE (mv rfl) rfl), nR rfl rfl rfl rfl rfl (by exact ovE (bin rfl rfl rfl) rfl), nR rfl rfl rfl rfl rfl (by exact ovE (ixV (lenx hz2643 rfl) rfl Tryd.runUnderlying110 Tryd.sizeOf112 (hV2639.rd (i := 1) rfl) Row.len rfl (hr2642.inb hk2646)) rfl), trivial⟩) fun D l a w ho hcl hav hpre hm hE hk hA hst => ?_
       have hS := (Ss.mk hE hst).env2 (e' := [(74, .agg ⟨[.int .i64 ((rd data2612 k_2617).often_), .slice A2629 ((rd data2612 k_2617).symbols_).length c2630]⟩), (76, slp A2525 (Int.toNat (w64 (k_2617 + (1 : Int))) * 2))]) ⟨rfl, rfl, trivial⟩
       refine op_of_nth rfl <| stVR (i := (w64 (k_2617 + (1 : Int)))) (sz := 2) 1 (⟨[.int .i64 ((rd data2612 k_2617).often_), .slice A2629 ((rd data2612 k_2617).symbols_).length c2630], by simp, by simp [Value.oneCell']⟩ : Row 2) hS rfl rfl hV2639 rfl Tryd.sizeOf112 rfl (hr2642.inb hk2646) fun rw2653 w f2651 hz hV2652 hS => ?_
       obtain ⟨zs2654, hzm⟩ := nameE (zs2641.set (Int.toNat (w64 (k_2617 + (1 : Int)))) (T_huff_packet.mk ((rd data2612 k_2617).often_) ((rd data2612 k_2617).symbols_)))
       replace hM := lt_to hzm hM
       have hr2655 := RelL.set (x := (T_huff_packet.mk ((rd data2612 k_2617).often_) ((rd data2612 k_2617).symbols_))) (r := (⟨[.int .i64 ((rd data2612 k_2617).often_), .slice A2629 ((rd data2612 k_2617).symbols_).length c2630], by simp, by simp [Value.oneCell']⟩ : Row 2)) (Int.toNat (w64 (k_2617 + (1 : Int)))) hr2642 (show R_huff_packet p2524 _ _ from ⟨A2629, c2630, rfl, hp2631, hc2632⟩)
       have hz2656 : rw2653.length = rw2640.length := by rw [hz]; exact List.length_set ..
       rw [← hz, ← hzm] at hr2655; clear hz hzm
       have hz2657 := Eq.trans hz2656 hz2644
       refine wpList_nil (then_n ?_)
       replace hst := hS.st
       obtain ⟨hcl, hmust, hav2, hA⟩ := dnN (vals' := [some (.slice A2525 rw2611.length c2526), some (.int .i64 k_2617), some (.slice A2525 rw2611.length c2526), some (.int .i64 k_2617), some (.int .i64 (w64 (k_2617 + (1 : Int)))), some (.slice A2525 rw2611.length c2526), some (.int .i64 k_2617), some (.int .i64 (w64 (k_2617 + (1 : Int)))), some (slp A2525 (Int.toNat (w64 (k_2617 + (1 : Int))) * 2)), some (.agg ⟨[.int .i64 ((rd data2612 (w64 (k_2617 + (1 : Int)))).often_), .slice A2622 ((rd data2612 (w64 (k_2617 + (1 : Int)))).symbols_).length c2623]⟩), some (.slice A2525 rw2611.length c2526), some (.int .i64 k_2617), some (slp A2525 (Int.toNat k_2617 * 2)), some (.agg ⟨[.int .i64 ((rd data2612 k_2617).often_), .slice A2629 ((rd data2612 k_2617).symbols_).length c2630]⟩), some (slp A2525 (Int.toNat k_2617 * 2)), some undef, some (slp A2525 (Int.toNat (w64 (k_2617 + (1 : Int))) * 2)), some undef]) 17 [(0, 17), (1, 17), (2, 17), (3, 17), (4, 17), (5, 17), (6, 17), (7, 17), (8, 17), (9, 17), (10, 17), (11, 17), (12, 17), (13, 17), (14, 17), (15, 17), (16, 17)] hA hcl hav hm hpre rfl rfl rfl rfl rfl
       clear hm hav
       refine phqE hA hst ho hcl hmust [] rfl rfl rfl trivial fun a w hS => ?_
       replace hS := hS.env2 (e' := [(0, .slice A2525 rw2653.length c2526), (10, .int .i64 i2560), (13, .int .i64 k_2617)]) ⟨(relk (u := .slice A2525 rw2611.length c2526) rfl (by rw [hz2656, hz2643])), rfl, rfl, trivial⟩
       refine blk_n (then_n ?_)
       refine wp_region_list <| st1 hS (mv rfl) rfl fun a w hS => st1 hS (bin rfl rfl rfl) rfl fun a w hS => st1x (v := Value.int .i64) (x0 := (w64 (k_2617 + (1 : Int)))) hS (asg rfl) rfl fun k_2658 a w hz hS => ?_
       have hM := lt_to hz hM; clear hz
       refine wpList_nil <| then_n ?_
       exact hJ2659 _ _ ⟨rw2653, zs2654, f2651, k_2658, hS.to [0, 1] (by kernel_rfl) ⟨rfl, rfl, rfl, trivial⟩, hV2652, hr2655, hz2657, hM⟩
      ·refine wp_exit ?_
       refine then_ex (then_ex (blk_same (then_n ?_)))
       refine wp_ret <| then_ret ?_
       exact s_ret (rs := []) hS rfl rfl (hret rw2611 data2612 f2613 w (wp_ok hM) hV2614 hr2615 hz2616 (hS.st.pick [0, 1] (by kernel_rfl)))
   ·refine wp_skip ?_
    refine then_n ?_
    exact hJ2660 _ _ ⟨hS.to [0, 1] (by kernel_rfl) ⟨rfl, rfl, rfl, rfl, rfl, trivial⟩, hM⟩
  ·intro a w hI
   obtain ⟨hS, hM⟩ := hI
   rw [slices_symMergeCmpFunc_huff_packet__b6e1_7e8b.j4] at hM
   refine seq_joinJ (fun a w => Ss 220 [] [(0, .slice A2525 rw2527.length c2526), (1, .int .i64 a_2531), (2, .int .i64 m2532), (3, .int .i64 b_2533), (4, fnv 57 [] [])] H [p2524, f2529] F a w ∧ (slices_symMergeCmpFunc_huff_packet__b6e1_7e8b.j8 K (slices_symMergeCmpFunc_huff_packet__b6e1_7e8b.r K d) data2523 a_2531 m2532 b_2533).wp kr kp) (fun J2785 hJ2785 => ?_) ?_
   ·refine wp_seq ?_
    refine wp_region_list <| st1 hS (mv rfl) rfl fun a w hS => st1 hS (mv rfl) rfl fun a w hS => st1 hS (bin rfl rfl rfl) rfl fun a w hS => st1 hS (bin rfl rfl rfl) rfl fun a w hS => wpList_nil <| then_n <| s_cond hS rfl hM (fun hb2661 hM => ?_) (fun hb2661 hM => ?_)
    ·refine wp_seq ?_
     refine wp_region_list <| st1 hS (mv rfl) rfl fun a w hS => st1 hS (asg rfl) rfl fun a w hS => wpList_nil <| then_n <| wp_seq <| wp_region_list <| st1 hS (mv rfl) rfl fun a w hS => st1 hS (asg rfl) rfl fun a w hS => wpList_nil <| then_n <| seq_joinJ (fun a w => ∃ (i2685 : Int), Ss 220 [] [(0, .slice A2525 rw2527.length c2526), (2, .int .i64 m2532), (14, .int .i64 i2685)] H [p2524, f2529] F a w ∧ (slices_symMergeCmpFunc_huff_packet__b6e1_7e8b.j6 K (slices_symMergeCmpFunc_huff_packet__b6e1_7e8b.r K d) data2523 m2532 i2685).wp kr kp) (fun J2686 hJ2686 => ?_) ?_
     ·refine wp_block ?_
      refine s_loopJ (fun k2664 a w => ∃ (i2662 : Int) (j2663 : Int), Ss 220 [] [(0, .slice A2525 rw2527.length c2526), (2, .int .i64 m2532), (4, fnv 57 [] []), (14, .int .i64 i2662), (15, .int .i64 j2663)] H [p2524, f2529] F a w ∧ (slices_symMergeCmpFunc_huff_packet__b6e1_7e8b.l5 K (slices_symMergeCmpFunc_huff_packet__b6e1_7e8b.r K d) data2523 m2532 k2664 i2662 j2663).wp kr kp) K ?_ ?_ ?_
      ·exact ⟨a_2531, m2532, hS.to [0, 1] (by kernel_rfl) ⟨rfl, rfl, rfl, rfl, rfl, trivial⟩, hM⟩
      ·intro a w hI; obtain ⟨_, _, _, hM⟩ := hI; exact wp_fail hM
      ·intro k2664 a w hI J2684 hJ2684
       obtain ⟨i2662, j2663, hS, hM⟩ := hI
       rw [slices_symMergeCmpFunc_huff_packet__b6e1_7e8b.l5] at hM
       refine wp_seq <| wp_seq <| wp_region_list <| st1 hS (mv rfl) rfl fun a w hS => st1 hS (mv rfl) rfl fun a w hS => st1 hS (bin rfl rfl rfl) rfl fun a w hS => wpList_nil <| then_n <| s_cond hS rfl hM (fun hb2665 hM => ?_) (fun hb2665 hM => ?_)
       ·refine wp_skip ?_
        refine then_n <| wp_block <| wp_seq <| wp_region_list <| st1 hS (mv rfl) rfl fun a w hS => st1 hS (mv rfl) rfl fun a w hS => st1 hS (bin rfl rfl rfl) rfl fun a w hS => st1 hS (cvi rfl Tryd.runUnderlying3 Tryd.runUnderlying39) rfl fun a w hS => st1 hS (shr rfl rfl rfl) rfl fun a w hS => st1 hS (cvi rfl Tryd.runUnderlying39 Tryd.runUnderlying3) rfl fun a w hS => st1x (v := Value.int .i64) (x0 := (wr .i64 (ishr .u64 (wr .u64 (w64 (i2662 + j2663))) (1 : Int)))) hS (asg rfl) rfl fun h2666 a w hz hS => ?_
        have hM := lt_to hz hM; clear hz
        refine wpList_nil <| then_n <| wp_seq ?_
        obtain ⟨hk2668, hM⟩ := wp_chk hM
        obtain ⟨A2669, c2670, hw2673, hp2671, hc2672⟩ := hr2528.get hk2668
        obtain ⟨hk2675, hM⟩ := wp_chk hM
        obtain ⟨A2676, c2677, hw2680, hp2678, hc2679⟩ := hr2528.get hk2675
        refine draw_begin (vals := [some (fnv 57 [] []), some (.slice A2525 rw2527.length c2526), some (.int .i64 m2532), some (slp A2525 (Int.toNat m2532 * 2)), some (.agg ⟨[.int .i64 ((rd data2523 m2532).often_), .slice A2669 ((rd data2523 m2532).symbols_).length c2670]⟩), some (.slice A2525 rw2527.length c2526), some (.int .i64 h2666), some (slp A2525 (Int.toNat h2666 * 2)), some (.agg ⟨[.int .i64 ((rd data2523 h2666).often_), .slice A2676 ((rd data2523 h2666).symbols_).length c2677]⟩), none, none, none]) hS mixed rfl ?_
        intro l w ho hcl hA hst
        refine phq hA hst ho hcl navail nmust 9 [0, 1, 2, 3, 4, 5, 6, 7, 8] rfl rfl rfl rfl rfl (by exact ⟨nR rfl rfl rfl rfl rfl (by exact ovE (mv rfl) rfl), nR rfl rfl rfl rfl rfl (by exact ovE (mv rfl) rfl), nR rfl rfl rfl rfl rfl (by exact ovE (mv rfl) rfl), nR rfl rfl rfl rfl rfl (by exact ovE (ixV rfl rfl Tryd.runUnderlying110 Tryd.sizeOf112 (hV2530.rd (i := 1) rfl) Row.len rfl (hr2528.inb hk2668)) rfl), nR rfl rfl rfl rfl rfl (by exact ovE (ovE (ldVA rfl (hV2530.rd (i := 1) rfl) Row.len (hr2528.inb hk2668) Tryd.isAgg112 Tryd.sizeOf112 rfl) (congrArg (fun l => Value.agg ⟨l⟩) hw2673)) rfl), nR rfl rfl rfl rfl rfl (by exact ovE (mv rfl) rfl), nR rfl rfl rfl rfl rfl (by exact ovE (mv rfl) rfl), nR rfl rfl rfl rfl rfl (by exact ovE (ixV rfl rfl Tryd.runUnderlying110 Tryd.sizeOf112 (hV2530.rd (i := 1) rfl) Row.len rfl (hr2528.inb hk2675)) rfl), nR rfl rfl rfl rfl rfl (by exact ovE (ovE (ldVA rfl (hV2530.rd (i := 1) rfl) Row.len (hr2528.inb hk2675) Tryd.isAgg112 Tryd.sizeOf112 rfl) (congrArg (fun l => Value.agg ⟨l⟩) hw2680)) rfl), trivial⟩) fun D l a w ho hcl hav hpre hm hE hk hA hst => ?_
        have hS := (Ss.mk hE hst).env2 (e' := [(92, fnv 57 [] []), (96, .agg ⟨[.int .i64 ((rd data2523 m2532).often_), .slice A2669 ((rd data2523 m2532).symbols_).length c2670]⟩), (100, .agg ⟨[.int .i64 ((rd data2523 h2666).often_), .slice A2676 ((rd data2523 h2666).symbols_).length c2677]⟩)]) ⟨rfl, rfl, rfl, trivial⟩
        refine op_of_nth rfl <| s_callV hS rfl rfl Tryd.call57 (huff_Lengths_2_c hG K (T_huff_packet.mk ((rd data2523 m2532).often_) ((rd data2523 m2532).symbols_)) (T_huff_packet.mk ((rd data2523 h2666).often_) ((rd data2523 h2666).symbols_)) A2669 c2670 A2676 c2677 (hp2671.rdF (i := 0) rfl) hc2672 (hp2678.rdF (i := 0) rfl) hc2679 (hS.st.part 0 [0, 1] (by kernel_rfl)) (wp_bind hM) (fun x2681 w hM  hst => s_back hS.ev hst.appF rfl fun hS => ?_))
        replace hS : Ss _ _ _ H [p2524, f2529] F _ _ := hS
        refine wpList_nil (then_n ?_)
        replace hst := hS.st
        obtain ⟨hcl, hmust, hav2, hA⟩ := dn (vals' := [some (fnv 57 [] []), some (.slice A2525 rw2527.length c2526), some (.int .i64 m2532), some (slp A2525 (Int.toNat m2532 * 2)), some (.agg ⟨[.int .i64 ((rd data2523 m2532).often_), .slice A2669 ((rd data2523 m2532).symbols_).length c2670]⟩), some (.slice A2525 rw2527.length c2526), some (.int .i64 h2666), some (slp A2525 (Int.toNat h2666 * 2)), some (.agg ⟨[.int .i64 ((rd data2523 h2666).often_), .slice A2676 ((rd data2523 h2666).symbols_).length c2677]⟩), some (.int .i64 x2681), some (.bool (decide (x2681 < (0 : Int)))), some (.bool (!(decide (x2681 < (0 : Int)))))]) 9 [(0, 9), (4, 9), (8, 9), (3, 4), (7, 8), (1, 3), (2, 3), (5, 7), (6, 7)] hA hcl hav hm hpre hk rfl rfl rfl rfl rfl rfl rfl
        clear hm hav
        refine phqE hA hst ho hcl hmust [10, 11] rfl rfl rfl (by exact ⟨nR rfl rfl rfl rfl rfl (by exact ovE (bin rfl rfl rfl) rfl), nR rfl rfl rfl rfl rfl (by exact ovE (un rfl rfl) rfl), trivial⟩) fun a w hS => ?_
        replace hS := hS.env2 (e' := [(0, .slice A2525 rw2527.length c2526), (2, .int .i64 m2532), (4, fnv 57 [] []), (14, .int .i64 i2662), (15, .int .i64 j2663), (16, .int .i64 h2666), (103, .bool (!(decide (x2681 < (0 : Int)))))]) ⟨rfl, rfl, rfl, rfl, rfl, rfl, rfl, trivial⟩
        refine then_n <| s_cond hS rfl hM (fun hb2682 hM => ?_) (fun hb2682 hM => ?_)
        ·refine wp_region_list ?_
         refine st1 hS (mv rfl) rfl fun a w hS => st1 hS (bin rfl rfl rfl) rfl fun a w hS => st1x (v := Value.int .i64) (x0 := (w64 (h2666 + (1 : Int)))) hS (asg rfl) rfl fun i2683 a w hz hS => ?_
         have hM := lt_to hz hM; clear hz
         refine wpList_nil <| blk_n (then_n ?_)
         exact hJ2684 _ _ ⟨i2683, j2663, hS.to [0, 1] (by kernel_rfl) ⟨rfl, rfl, rfl, rfl, rfl, trivial⟩, hM⟩
        ·refine wp_region_list ?_
         refine st1 hS (mv rfl) rfl fun a w hS => st1 hS (asg rfl) rfl fun a w hS => wpList_nil <| blk_n (then_n ?_)
         exact hJ2684 _ _ ⟨i2662, h2666, hS.to [0, 1] (by kernel_rfl) ⟨rfl, rfl, rfl, rfl, rfl, trivial⟩, hM⟩
       ·refine wp_exit ?_
        refine then_ex (then_ex (blk_same (then_n ?_)))
        exact hJ2686 _ _ ⟨i2662, hS.to [0, 1] (by kernel_rfl) ⟨rfl, rfl, rfl, trivial⟩, hM⟩
     ·intro a w hI
      obtain ⟨i2685, hS, hM⟩ := hI
      rw [slices_symMergeCmpFunc_huff_packet__b6e1_7e8b.j6] at hM
      refine wp_seq <| wp_seq <| wp_region_list <| st1 hS (mv rfl) rfl fun a w hS => st1 hS (asg rfl) rfl fun a w hS => wpList_nil <| then_n <| wp_block <| s_loopJ (fun k2743 a w => ∃ (rw2736 : List (Row 2)) (data2737 : (List T_huff_packet)) (f2738 : Frag) (k_2742 : Int), Ss 220 [] [(0, .slice A2525 rw2736.length c2526), (14, .int .i64 i2685), (17, .int .i64 k_2742)] H [p2524, f2738] F a w ∧ (Vec 112 (Row.v (sz := 2)) 2 A2525 rw2736 c2526 f2738) ∧ (RelL (R_huff_packet p2524) data2737 rw2736) ∧ (rw2736.length = rw2527.length) ∧ (slices_symMergeCmpFunc_huff_packet__b6e1_7e8b.l7 K (slices_symMergeCmpFunc_huff_packet__b6e1_7e8b.r K d) i2685 k2743 data2737 k_2742).wp kr kp) K ?_ ?_ ?_
      ·exact ⟨rw2527, data2523, f2529, m2532, hS.to [0, 1] (by kernel_rfl) ⟨rfl, rfl, rfl, trivial⟩, hV2530, hr2528, hz2535, hM⟩
      ·intro a w hI; obtain ⟨_, _, _, _, _, _, _, _, hM⟩ := hI; exact wp_fail hM
      ·intro k2743 a w hI J2784 hJ2784
       obtain ⟨rw2736, data2737, f2738, k_2742, hS, hV2739, hr2740, hz2741, hM⟩ := hI
       rw [slices_symMergeCmpFunc_huff_packet__b6e1_7e8b.l7] at hM
       refine wp_seq <| wp_seq <| wp_region_list <| st1 hS (mv rfl) rfl fun a w hS => st1 hS (mv rfl) rfl fun a w hS => st1 hS (bin rfl rfl rfl) rfl fun a w hS => wpList_nil <| then_n <| s_cond hS rfl hM (fun hb2744 hM => ?_) (fun hb2744 hM => ?_)
       ·refine wp_skip ?_
        refine then_n <| wp_seq <| wp_block ?_
        obtain ⟨hk2746, hM⟩ := wp_chk hM
        obtain ⟨A2747, c2748, hw2751, hp2749, hc2750⟩ := hr2740.get hk2746
        obtain ⟨hk2753, hM⟩ := wp_chk hM
        obtain ⟨A2754, c2755, hw2758, hp2756, hc2757⟩ := hr2740.get hk2753
        refine draw_begin (vals := [some (.slice A2525 rw2736.length c2526), some (.int .i64 k_2742), some (.slice A2525 rw2736.length c2526), some (.int .i64 k_2742), some (.int .i64 (w64 (k_2742 - (1 : Int)))), some (.slice A2525 rw2736.length c2526), some (.int .i64 k_2742), some (.int .i64 (w64 (k_2742 - (1 : Int)))), some (slp A2525 (Int.toNat (w64 (k_2742 - (1 : Int))) * 2)), some (.agg ⟨[.int .i64 ((rd data2737 (w64 (k_2742 - (1 : Int)))).often_), .slice A2747 ((rd data2737 (w64 (k_2742 - (1 : Int)))).symbols_).length c2748]⟩), some (.slice A2525 rw2736.length c2526), some (.int .i64 k_2742), some (slp A2525 (Int.toNat k_2742 * 2)), some (.agg ⟨[.int .i64 ((rd data2737 k_2742).often_), .slice A2754 ((rd data2737 k_2742).symbols_).length c2755]⟩), some (slp A2525 (Int.toNat k_2742 * 2)), none, none, none]) hS mixed rfl ?_
        intro l w ho hcl hA hst
        refine phq hA hst ho hcl navail nmust 15 [0, 1, 2, 3, 4, 5, 6, 7, 8, 9, 10, 11, 12, 13, 14] rfl rfl rfl rfl rfl (by exact ⟨nR rfl rfl rfl rfl rfl (by exact ovE (mv rfl) rfl), nR rfl rfl rfl rfl rfl (by exact ovE (mv rfl) rfl), nR rfl rfl rfl rfl rfl (by exact ovE (mv rfl) rfl), nR rfl rfl rfl rfl rfl (by exact ovE (mv rfl) rfl), nR rfl rfl rfl rfl rfl (by exact ovE (bin rfl rfl rfl) rfl), nR rfl rfl rfl rfl rfl (by exact ovE (mv rfl) rfl), nR rfl rfl rfl rfl rfl (by exact ovE (mv rfl) rfl), nR rfl rfl rfl rfl rfl (by exact ovE (bin rfl rfl rfl) rfl), nR rfl rfl rfl rfl rfl (by exact ovE (ixV rfl rfl Tryd.runUnderlying110 Tryd.sizeOf112 (hV2739.rd (i := 1) rfl) Row.len rfl (hr2740.inb hk2746)) rfl), nR rfl rfl rfl rfl rfl (by exact ovE (ovE (ldVA rfl (hV2739.rd (i := 1) rfl) Row.len (hr2740.inb hk2746) Tryd.isAgg112 Tryd.sizeOf112 rfl) (congrArg (fun l => Value.agg ⟨l⟩) hw2751)) rfl), nR rfl rfl rfl rfl rfl (by exact ovE (mv rfl) rfl), nR rfl rfl rfl rfl rfl (by exact ovE (mv rfl) rfl), nR rfl rfl rfl rfl rfl (by exact ovE (ixV rfl rfl Tryd.runUnderlying110 Tryd.sizeOf112 (hV2739.rd (i := 1) rfl) Row.len rfl (hr2740.inb hk2753)) rfl), nR rfl rfl rfl rfl rfl (by exact ovE (ovE (ldVA rfl (hV2739.rd (i := 1) rfl) Row.len (hr2740.inb hk2753) Tryd.isAgg112 Tryd.sizeOf112 rfl) (congrArg (fun l => Value.agg ⟨l⟩) hw2758)) rfl), nR rfl rfl rfl rfl rfl (by exact ovE (ixV rfl rfl Tryd.runUnderlying110 Tryd.sizeOf112 (hV2739.rd (i := 1) rfl) Row.len rfl (hr2740.inb hk2753)) rfl), trivial⟩) fun D l a w ho hcl hav hpre hm hE hk hA hst => ?_
        have hS := (Ss.mk hE hst).env2 (e' := [(122, .agg ⟨[.int .i64 ((rd data2737 (w64 (k_2742 - (1 : Int)))).often_), .slice A2747 ((rd data2737 (w64 (k_2742 - (1 : Int)))).symbols_).length c2748]⟩), (127, slp A2525 (Int.toNat k_2742 * 2))]) ⟨rfl, rfl, trivial⟩
        refine op_of_nth rfl <| stVR (i := k_2742) (sz := 2) 1 (⟨[.int .i64 ((rd data2737 (w64 (k_2742 - (1 : Int)))).often_), .slice A2747 ((rd data2737 (w64 (k_2742 - (1 : Int)))).symbols_).length c2748], by simp, by simp [Value.oneCell']⟩ : Row 2) hS rfl rfl hV2739 rfl Tryd.sizeOf112 rfl (hr2740.inb hk2753) fun rw2765 w f2763 hz hV2764 hS => ?_
        obtain ⟨zs2766, hzm⟩ := nameE (data2737.set (Int.toNat k_2742) (T_huff_packet.mk ((rd data2737 (w64 (k_2742 - (1 : Int)))).often_) ((rd data2737 (w64 (k_2742 - (1 : Int)))).symbols_)))
        replace hM := lt_to hzm hM
        have hr2767 := RelL.set (x := (T_huff_packet.mk ((rd data2737 (w64 (k_2742 - (1 : Int)))).often_) ((rd data2737 (w64 (k_2742 - (1 : Int)))).symbols_))) (r := (⟨[.int .i64 ((rd data2737 (w64 (k_2742 - (1 : Int)))).often_), .slice A2747 ((rd data2737 (w64 (k_2742 - (1 : Int)))).symbols_).length c2748], by simp, by simp [Value.oneCell']⟩ : Row 2)) (Int.toNat k_2742) hr2740 (show R_huff_packet p2524 _ _ from ⟨A2747, c2748, rfl, hp2749, hc2750⟩)
        have hz2768 : rw2765.length = rw2736.length := by rw [hz]; exact List.length_set ..
        rw [← hz, ← hzm] at hr2767; clear hz hzm
        have hz2769 := Eq.trans hz2768 hz2741
        refine wpList_nil (then_n ?_)
        replace hst := hS.st
        obtain ⟨hk2771, hM⟩ := wp_chk hM
        obtain ⟨hcl, hmust, hav2, hA⟩ := dnN (vals' := [some (.slice A2525 rw2736.length c2526), some (.int .i64 k_2742), some (.slice A2525 rw2736.length c2526), some (.int .i64 k_2742), some (.int .i64 (w64 (k_2742 - (1 : Int)))), some (.slice A2525 rw2736.length c2526), some (.int .i64 k_2742), some (.int .i64 (w64 (k_2742 - (1 : Int)))), some (slp A2525 (Int.toNat (w64 (k_2742 - (1 : Int))) * 2)), some (.agg ⟨[.int .i64 ((rd data2737 (w64 (k_2742 - (1 : Int)))).often_), .slice A2747 ((rd data2737 (w64 (k_2742 - (1 : Int)))).symbols_).length c2748]⟩), some (.slice A2525 rw2736.length c2526), some (.int .i64 k_2742), some (slp A2525 (Int.toNat k_2742 * 2)), some (.agg ⟨[.int .i64 ((rd data2737 k_2742).often_), .slice A2754 ((rd data2737 k_2742).symbols_).length c2755]⟩), some (slp A2525 (Int.toNat k_2742 * 2)), some undef, some (slp A2525 (Int.toNat (w64 (k_2742 - (1 : Int))) * 2)), none]) 15 [(0, 15), (1, 15), (5, 15), (6, 15), (7, 15), (8, 15), (9, 15), (13, 15), (14, 15), (12, 13), (10, 12), (11, 12)] hA hcl hav hm hpre rfl rfl rfl rfl rfl
        clear hm hav
        refine phq hA hst ho hcl hav2 hmust 17 [2, 3, 4, 16] rfl rfl rfl rfl rfl (by exact ⟨nR rfl rfl rfl rfl rfl (by exact ovE (mv rfl) rfl), nR rfl rfl rfl rfl rfl (by exact ovE (mv rfl) rfl), nR rfl rfl rfl rfl rfl (by exact ovE (bin rfl rfl rfl) rfl), nR rfl rfl rfl rfl rfl (by exact ovE (ixV (lenx hz2768 rfl) rfl Tryd.runUnderlying110 Tryd.sizeOf112 (hV2764.rd (i := 1) rfl) Row.len rfl (hr2767.inb hk2771)) rfl), trivial⟩) fun D l a w ho hcl hav hpre hm hE hk hA hst => ?_
        have hS := (Ss.mk hE hst).env2 (e' := [(126, .agg ⟨[.int .i64 ((rd data2737 k_2742).often_), .slice A2754 ((rd data2737 k_2742).symbols_).length c2755]⟩), (128, slp A2525 (Int.toNat (w64 (k_2742 - (1 : Int))) * 2))]) ⟨rfl, rfl, trivial⟩
        refine op_of_nth rfl <| stVR (i := (w64 (k_2742 - (1 : Int)))) (sz := 2) 1 (⟨[.int .i64 ((rd data2737 k_2742).often_), .slice A2754 ((rd data2737 k_2742).symbols_).length c2755], by simp, by simp [Value.oneCell']⟩ : Row 2) hS rfl rfl hV2764 rfl Tryd.sizeOf112 rfl (hr2767.inb hk2771) fun rw2778 w f2776 hz hV2777 hS => ?_
        obtain ⟨zs2779, hzm⟩ := nameE (zs2766.set (Int.toNat (w64 (k_2742 - (1 : Int)))) (T_huff_packet.mk ((rd data2737 k_2742).often_) ((rd data2737 k_2742).symbols_)))
        replace hM := lt_to hzm hM
        have hr2780 := RelL.set (x := (T_huff_packet.mk ((rd data2737 k_2742).often_) ((rd data2737 k_2742).symbols_))) (r := (⟨[.int .i64 ((rd data2737 k_2742).often_), .slice A2754 ((rd data2737 k_2742).symbols_).length c2755], by simp, by simp [Value.oneCell']⟩ : Row 2)) (Int.toNat (w64 (k_2742 - (1 : Int)))) hr2767 (show R_huff_packet p2524 _ _ from ⟨A2754, c2755, rfl, hp2756, hc2757⟩)
        have hz2781 : rw2778.length = rw2765.length := by rw [hz]; exact List.length_set ..
        rw [← hz, ← hzm] at hr2780; clear hz hzm
        have hz2782 := Eq.trans hz2781 hz2769
        refine wpList_nil (then_n ?_)
        replace hst := hS.st
        obtain ⟨hcl, hmust, hav2, hA⟩ := dnN (vals' := [some (.slice A2525 rw2736.length c2526), some (.int .i64 k_2742), some (.slice A2525 rw2736.length c2526), some (.int .i64 k_2742), some (.int .i64 (w64 (k_2742 - (1 : Int)))), some (.slice A2525 rw2736.length c2526), some (.int .i64 k_2742), some (.int .i64 (w64 (k_2742 - (1 : Int)))), some (slp A2525 (Int.toNat (w64 (k_2742 - (1 : Int))) * 2)), some (.agg ⟨[.int .i64 ((rd data2737 (w64 (k_2742 - (1 : Int)))).often_), .slice A2747 ((rd data2737 (w64 (k_2742 - (1 : Int)))).symbols_).length c2748]⟩), some (.slice A2525 rw2736.length c2526), some (.int .i64 k_2742), some (slp A2525 (Int.toNat k_2742 * 2)), some (.agg ⟨[.int .i64 ((rd data2737 k_2742).often_), .slice A2754 ((rd data2737 k_2742).symbols_).length c2755]⟩), some (slp A2525 (Int.toNat k_2742 * 2)), some undef, some (slp A2525 (Int.toNat (w64 (k_2742 - (1 : Int))) * 2)), some undef]) 17 [(0, 17), (1, 17), (2, 17), (3, 17), (4, 17), (5, 17), (6, 17), (7, 17), (8, 17), (9, 17), (10, 17), (11, 17), (12, 17), (13, 17), (14, 17), (15, 17), (16, 17)] hA hcl hav hm hpre rfl rfl rfl rfl rfl
        clear hm hav
        refine phqE hA hst ho hcl hmust [] rfl rfl rfl trivial fun a w hS => ?_
        replace hS := hS.env2 (e' := [(0, .slice A2525 rw2778.length c2526), (14, .int .i64 i2685), (17, .int .i64 k_2742)]) ⟨(relk (u := .slice A2525 rw2736.length c2526) rfl (by rw [hz2781, hz2768])), rfl, rfl, trivial⟩
        refine blk_n (then_n ?_)
        refine wp_region_list <| st1 hS (mv rfl) rfl fun a w hS => st1 hS (bin rfl rfl rfl) rfl fun a w hS => st1x (v := Value.int .i64) (x0 := (w64 (k_2742 - (1 : Int)))) hS (asg rfl) rfl fun k_2783 a w hz hS => ?_
        have hM := lt_to hz hM; clear hz
        refine wpList_nil <| then_n ?_
        exact hJ2784 _ _ ⟨rw2778, zs2779, f2776, k_2783, hS.to [0, 1] (by kernel_rfl) ⟨rfl, rfl, rfl, trivial⟩, hV2777, hr2780, hz2782, hM⟩
       ·refine wp_exit ?_
        refine then_ex (then_ex (blk_same (then_n ?_)))
        refine wp_ret <| then_ret ?_
        exact s_ret (rs := []) hS rfl rfl (hret rw2736 data2737 f2738 w (wp_ok hM) hV2739 hr2740 hz2741 (hS.st.pick [0, 1] (by kernel_rfl)))
    ·refine wp_skip ?_
     refine then_n ?_
     exact hJ2785 _ _ ⟨hS.to [0, 1] (by kernel_rfl) ⟨rfl, rfl, rfl, rfl, rfl, trivial⟩, hM⟩
   ·intro a w hI
    obtain ⟨hS, hM⟩ := hI
    rw [slices_symMergeCmpFunc_huff_packet__b6e1_7e8b.j8] at hM
    refine wp_seq <| wp_region_list <| st1 hS (mv rfl) rfl fun a w hS => st1 hS (mv rfl) rfl fun a w hS => st1 hS (bin rfl rfl rfl) rfl fun a w hS => st1 hS (cvi rfl Tryd.runUnderlying3 Tryd.runUnderlying39) rfl fun a w hS => st1 hS (shr rfl rfl rfl) rfl fun a w hS => st1 hS (cvi rfl Tryd.runUnderlying39 Tryd.runUnderlying3) rfl fun a w hS => st1x (v := Value.int .i64) (x0 := (wr .i64 (ishr .u64 (wr .u64 (w64 (a_2531 + b_2533))) (1 : Int)))) hS (asg rfl) rfl fun mid2786 a w hz hS => ?_
    have hM := lt_to hz hM; clear hz
    refine wpList_nil <| then_n <| wp_seq <| wp_region_list <| st1 hS (mv rfl) rfl fun a w hS => st1 hS (mv rfl) rfl fun a w hS => st1 hS (bin rfl rfl rfl) rfl fun a w hS => st1x (v := Value.int .i64) (x0 := (w64 (mid2786 + m2532))) hS (asg rfl) rfl fun n_2787 a w hz hS => ?_
    have hM := lt_to hz hM; clear hz
    refine wpList_nil <| then_n <| wp_seq <| wp_region_list <| st1 hS (asg rfl) rfl fun a w hS => st1 hS (asg rfl) rfl fun a w hS => wpList_nil <| then_n <| seq_joinJ (fun a w => ∃ (start2790 : Int) (r2791 : Int), Ss 220 [] [(0, .slice A2525 rw2527.length c2526), (1, .int .i64 a_2531), (2, .int .i64 m2532), (3, .int .i64 b_2533), (4, fnv 57 [] []), (18, .int .i64 mid2786), (19, .int .i64 n_2787), (20, .int .i64 start2790), (21, .int .i64 r2791)] H [p2524, f2529] F a w ∧ (slices_symMergeCmpFunc_huff_packet__b6e1_7e8b.j9 K (slices_symMergeCmpFunc_huff_packet__b6e1_7e8b.r K d) data2523 a_2531 m2532 b_2533 mid2786 n_2787 start2790 r2791).wp kr kp) (fun J2792 hJ2792 => ?_) ?_
    ·refine wp_seq ?_
     refine wp_region_list <| st1 hS (mv rfl) rfl fun a w hS => st1 hS (mv rfl) rfl fun a w hS => st1 hS (bin rfl rfl rfl) rfl fun a w hS => wpList_nil <| then_n <| s_cond hS rfl hM (fun hb2788 hM => ?_) (fun hb2788 hM => ?_)
     ·refine wp_seq ?_
      refine wp_region_list <| st1 hS (mv rfl) rfl fun a w hS => st1 hS (mv rfl) rfl fun a w hS => st1 hS (bin rfl rfl rfl) rfl fun a w hS => st1x (v := Value.int .i64) (x0 := (w64 (n_2787 - b_2533))) hS (asg rfl) rfl fun start2789 a w hz hS => ?_
      have hM := lt_to hz hM; clear hz
      refine wpList_nil <| then_n <| wp_region_list <| st1 hS (mv rfl) rfl fun a w hS => st1 hS (asg rfl) rfl fun a w hS => wpList_nil <| then_n ?_
      exact hJ2792 _ _ ⟨start2789, mid2786, hS.to [0, 1] (by kernel_rfl) ⟨rfl, rfl, rfl, rfl, rfl, rfl, rfl, rfl, rfl, trivial⟩, hM⟩
     ·refine wp_seq ?_
      refine wp_region_list <| st1 hS (mv rfl) rfl fun a w hS => st1 hS (asg rfl) rfl fun a w hS => wpList_nil <| then_n <| wp_region_list <| st1 hS (mv rfl) rfl fun a w hS => st1 hS (asg rfl) rfl fun a w hS => wpList_nil <| then_n ?_
      exact hJ2792 _ _ ⟨a_2531, m2532, hS.to [0, 1] (by kernel_rfl) ⟨rfl, rfl, rfl, rfl, rfl, rfl, rfl, rfl, rfl, trivial⟩, hM⟩
    ·intro a w hI
     obtain ⟨start2790, r2791, hS, hM⟩ := hI
     rw [slices_symMergeCmpFunc_huff_packet__b6e1_7e8b.j9] at hM
     refine wp_seq <| wp_region_list <| st1 hS (mv rfl) rfl fun a w hS => st1 hS (bin rfl rfl rfl) rfl fun a w hS => st1x (v := Value.int .i64) (x0 := (w64 (n_2787 - (1 : Int)))) hS (asg rfl) rfl fun p2793 a w hz hS => ?_
     have hM := lt_to hz hM; clear hz
     refine wpList_nil <| then_n <| seq_joinJ (fun a w => ∃ (start2817 : Int), Ss 220 [] [(0, .slice A2525 rw2527.length c2526), (1, .int .i64 a_2531), (2, .int .i64 m2532), (3, .int .i64 b_2533), (4, fnv 57 [] []), (18, .int .i64 mid2786), (19, .int .i64 n_2787), (20, .int .i64 start2817)] H [p2524, f2529] F a w ∧ (slices_symMergeCmpFunc_huff_packet__b6e1_7e8b.j11 K (slices_symMergeCmpFunc_huff_packet__b6e1_7e8b.r K d) data2523 a_2531 m2532 b_2533 mid2786 n_2787 start2817).wp kr kp) (fun J2818 hJ2818 => ?_) ?_
     ·refine wp_block ?_
      refine s_loopJ (fun k2796 a w => ∃ (start2794 : Int) (r2795 : Int), Ss 220 [] [(0, .slice A2525 rw2527.length c2526), (1, .int .i64 a_2531), (2, .int .i64 m2532), (3, .int .i64 b_2533), (4, fnv 57 [] []), (18, .int .i64 mid2786), (19, .int .i64 n_2787), (20, .int .i64 start2794), (21, .int .i64 r2795), (22, .int .i64 p2793)] H [p2524, f2529] F a w ∧ (slices_symMergeCmpFunc_huff_packet__b6e1_7e8b.l10 K (slices_symMergeCmpFunc_huff_packet__b6e1_7e8b.r K d) data2523 a_2531 m2532 b_2533 mid2786 n_2787 p2793 k2796 start2794 r2795).wp kr kp) K ?_ ?_ ?_
      ·exact ⟨start2790, r2791, hS.to [0, 1] (by kernel_rfl) ⟨rfl, rfl, rfl, rfl, rfl, rfl, rfl, rfl, rfl, rfl, trivial⟩, hM⟩
      ·intro a w hI; obtain ⟨_, _, _, hM⟩ := hI; exact wp_fail hM
      ·intro k2796 a w hI J2816 hJ2816
       obtain ⟨start2794, r2795, hS, hM⟩ := hI
       rw [slices_symMergeCmpFunc_huff_packet__b6e1_7e8b.l10] at hM
       refine wp_seq <| wp_seq <| wp_region_list <| st1 hS (mv rfl) rfl fun a w hS => st1 hS (mv rfl) rfl fun a w hS => st1 hS (bin rfl rfl rfl) rfl fun a w hS => wpList_nil <| then_n <| s_cond hS rfl hM (fun hb2797 hM => ?_) (fun hb2797 hM => ?_)
       ·refine wp_skip ?_
        refine then_n <| wp_block <| wp_seq <| wp_region_list <| st1 hS (mv rfl) rfl fun a w hS => st1 hS (mv rfl) rfl fun a w hS => st1 hS (bin rfl rfl rfl) rfl fun a w hS => st1 hS (cvi rfl Tryd.runUnderlying3 Tryd.runUnderlying39) rfl fun a w hS => st1 hS (shr rfl rfl rfl) rfl fun a w hS => st1 hS (cvi rfl Tryd.runUnderlying39 Tryd.runUnderlying3) rfl fun a w hS => st1x (v := Value.int .i64) (x0 := (wr .i64 (ishr .u64 (wr .u64 (w64 (start2794 + r2795))) (1 : Int)))) hS (asg rfl) rfl fun c_2798 a w hz hS => ?_
        have hM := lt_to hz hM; clear hz
        refine wpList_nil <| then_n <| wp_seq ?_
        obtain ⟨hk2800, hM⟩ := wp_chk hM
        obtain ⟨A2801, c2802, hw2805, hp2803, hc2804⟩ := hr2528.get hk2800
        obtain ⟨hk2807, hM⟩ := wp_chk hM
        obtain ⟨A2808, c2809, hw2812, hp2810, hc2811⟩ := hr2528.get hk2807
        refine draw_begin (vals := [some (fnv 57 [] []), some (.slice A2525 rw2527.length c2526), some (.int .i64 p2793), some (.int .i64 c_2798), some (.int .i64 (w64 (p2793 - c_2798))), some (slp A2525 (Int.toNat (w64 (p2793 - c_2798)) * 2)), some (.agg ⟨[.int .i64 ((rd data2523 (w64 (p2793 - c_2798))).often_), .slice A2801 ((rd data2523 (w64 (p2793 - c_2798))).symbols_).length c2802]⟩), some (.slice A2525 rw2527.length c2526), some (.int .i64 c_2798), some (slp A2525 (Int.toNat c_2798 * 2)), some (.agg ⟨[.int .i64 ((rd data2523 c_2798).often_), .slice A2808 ((rd data2523 c_2798).symbols_).length c2809]⟩), none, none, none]) hS mixed rfl ?_
        intro l w ho hcl hA hst
        refine phq hA hst ho hcl navail nmust 11 [0, 1, 2, 3, 4, 5, 6, 7, 8, 9, 10] rfl rfl rfl rfl rfl (by exact ⟨nR rfl rfl rfl rfl rfl (by exact ovE (mv rfl) rfl), nR rfl rfl rfl rfl rfl (by exact ovE (mv rfl) rfl), nR rfl rfl rfl rfl rfl (by exact ovE (mv rfl) rfl), nR rfl rfl rfl rfl rfl (by exact ovE (mv rfl) rfl), nR rfl rfl rfl rfl rfl (by exact ovE (bin rfl rfl rfl) rfl), nR rfl rfl rfl rfl rfl (by exact ovE (ixV rfl rfl Tryd.runUnderlying110 Tryd.sizeOf112 (hV2530.rd (i := 1) rfl) Row.len rfl (hr2528.inb hk2800)) rfl), nR rfl rfl rfl rfl rfl (by exact ovE (ovE (ldVA rfl (hV2530.rd (i := 1) rfl) Row.len (hr2528.inb hk2800) Tryd.isAgg112 Tryd.sizeOf112 rfl) (congrArg (fun l => Value.agg ⟨l⟩) hw2805)) rfl), nR rfl rfl rfl rfl rfl (by exact ovE (mv rfl) rfl), nR rfl rfl rfl rfl rfl (by exact ovE (mv rfl) rfl), nR rfl rfl rfl rfl rfl (by exact ovE (ixV rfl rfl Tryd.runUnderlying110 Tryd.sizeOf112 (hV2530.rd (i := 1) rfl) Row.len rfl (hr2528.inb hk2807)) rfl), nR rfl rfl rfl rfl rfl (by exact ovE (ovE (ldVA rfl (hV2530.rd (i := 1) rfl) Row.len (hr2528.inb hk2807) Tryd.isAgg112 Tryd.sizeOf112 rfl) (congrArg (fun l => Value.agg ⟨l⟩) hw2812)) rfl), trivial⟩) fun D l a w ho hcl hav hpre hm hE hk hA hst => ?_
        have hS := (Ss.mk hE hst).env2 (e' := [(158, fnv 57 [] []), (164, .agg ⟨[.int .i64 ((rd data2523 (w64 (p2793 - c_2798))).often_), .slice A2801 ((rd data2523 (w64 (p2793 - c_2798))).symbols_).length c2802]⟩), (168, .agg ⟨[.int .i64 ((rd data2523 c_2798).often_), .slice A2808 ((rd data2523 c_2798).symbols_).length c2809]⟩)]) ⟨rfl, rfl, rfl, trivial⟩
        refine op_of_nth rfl <| s_callV hS rfl rfl Tryd.call57 (huff_Lengths_2_c hG K (T_huff_packet.mk ((rd data2523 (w64 (p2793 - c_2798))).often_) ((rd data2523 (w64 (p2793 - c_2798))).symbols_)) (T_huff_packet.mk ((rd data2523 c_2798).often_) ((rd data2523 c_2798).symbols_)) A2801 c2802 A2808 c2809 (hp2803.rdF (i := 0) rfl) hc2804 (hp2810.rdF (i := 0) rfl) hc2811 (hS.st.part 0 [0, 1] (by kernel_rfl)) (wp_bind hM) (fun x2813 w hM  hst => s_back hS.ev hst.appF rfl fun hS => ?_))
        replace hS : Ss _ _ _ H [p2524, f2529] F _ _ := hS
        refine wpList_nil (then_n ?_)
        replace hst := hS.st
        obtain ⟨hcl, hmust, hav2, hA⟩ := dn (vals' := [some (fnv 57 [] []), some (.slice A2525 rw2527.length c2526), some (.int .i64 p2793), some (.int .i64 c_2798), some (.int .i64 (w64 (p2793 - c_2798))), some (slp A2525 (Int.toNat (w64 (p2793 - c_2798)) * 2)), some (.agg ⟨[.int .i64 ((rd data2523 (w64 (p2793 - c_2798))).often_), .slice A2801 ((rd data2523 (w64 (p2793 - c_2798))).symbols_).length c2802]⟩), some (.slice A2525 rw2527.length c2526), some (.int .i64 c_2798), some (slp A2525 (Int.toNat c_2798 * 2)), some (.agg ⟨[.int .i64 ((rd data2523 c_2798).often_), .slice A2808 ((rd data2523 c_2798).symbols_).length c2809]⟩), some (.int .i64 x2813), some (.bool (decide (x2813 < (0 : Int)))), some (.bool (!(decide (x2813 < (0 : Int)))))]) 11 [(0, 11), (6, 11), (10, 11), (5, 6), (9, 10), (1, 5), (4, 5), (7, 9), (8, 9), (2, 4), (3, 4)] hA hcl hav hm hpre hk rfl rfl rfl rfl rfl rfl rfl
        clear hm hav
        refine phqE hA hst ho hcl hmust [12, 13] rfl rfl rfl (by exact ⟨nR rfl rfl rfl rfl rfl (by exact ovE (bin rfl rfl rfl) rfl), nR rfl rfl rfl rfl rfl (by exact ovE (un rfl rfl) rfl), trivial⟩) fun a w hS => ?_
        replace hS := hS.env2 (e' := [(0, .slice A2525 rw2527.length c2526), (1, .int .i64 a_2531), (2, .int .i64 m2532), (3, .int .i64 b_2533), (4, fnv 57 [] []), (18, .int .i64 mid2786), (19, .int .i64 n_2787), (20, .int .i64 start2794), (21, .int .i64 r2795), (22, .int .i64 p2793), (23, .int .i64 c_2798), (171, .bool (!(decide (x2813 < (0 : Int)))))]) ⟨rfl, rfl, rfl, rfl, rfl, rfl, rfl, rfl, rfl, rfl, rfl, rfl, trivial⟩
        refine then_n <| s_cond hS rfl hM (fun hb2814 hM => ?_) (fun hb2814 hM => ?_)
        ·refine wp_region_list ?_
         refine st1 hS (mv rfl) rfl fun a w hS => st1 hS (bin rfl rfl rfl) rfl fun a w hS => st1x (v := Value.int .i64) (x0 := (w64 (c_2798 + (1 : Int)))) hS (asg rfl) rfl fun start2815 a w hz hS => ?_
         have hM := lt_to hz hM; clear hz
         refine wpList_nil <| blk_n (then_n ?_)
         exact hJ2816 _ _ ⟨start2815, r2795, hS.to [0, 1] (by kernel_rfl) ⟨rfl, rfl, rfl, rfl, rfl, rfl, rfl, rfl, rfl, rfl, trivial⟩, hM⟩
        ·refine wp_region_list ?_
         refine st1 hS (mv rfl) rfl fun a w hS => st1 hS (asg rfl) rfl fun a w hS => wpList_nil <| blk_n (then_n ?_)
         exact hJ2816 _ _ ⟨start2794, c_2798, hS.to [0, 1] (by kernel_rfl) ⟨rfl, rfl, rfl, rfl, rfl, rfl, rfl, rfl, rfl, rfl, trivial⟩, hM⟩
       ·refine wp_exit ?_
        refine then_ex (then_ex (blk_same (then_n ?_)))
        exact hJ2818 _ _ ⟨start2794, hS.to [0, 1] (by kernel_rfl) ⟨rfl, rfl, rfl, rfl, rfl, rfl, rfl, rfl, trivial⟩, hM⟩
     ·intro a w hI
      obtain ⟨start2817, hS, hM⟩ := hI
      rw [slices_symMergeCmpFunc_huff_packet__b6e1_7e8b.j11] at hM
      refine wp_seq <| wp_region_list <| st1 hS (mv rfl) rfl fun a w hS => st1 hS (mv rfl) rfl fun a w hS => st1 hS (bin rfl rfl rfl) rfl fun a w hS => st1x (v := Value.int .i64) (x0 := (w64 (n_2787 - start2817))) hS (asg rfl) rfl fun end_2819 a w hz hS => ?_
      have hM := lt_to hz hM; clear hz
      refine wpList_nil <| then_n <| seq_joinJ (fun a w => ∃ (rw2828 : List (Row 2)) (data2829 : (List T_huff_packet)) (f2830 : Frag), Ss 220 [] [(0, .slice A2525 rw2828.length c2526), (1, .int .i64 a_2531), (3, .int .i64 b_2533), (4, fnv 57 [] []), (18, .int .i64 mid2786), (20, .int .i64 start2817), (24, .int .i64 end_2819)] H [p2524, f2830] F a w ∧ (Vec 112 (Row.v (sz := 2)) 2 A2525 rw2828 c2526 f2830) ∧ (RelL (R_huff_packet p2524) data2829 rw2828) ∧ (rw2828.length = rw2527.length) ∧ (slices_symMergeCmpFunc_huff_packet__b6e1_7e8b.j12 K (slices_symMergeCmpFunc_huff_packet__b6e1_7e8b.r K d) a_2531 b_2533 mid2786 start2817 end_2819 data2829).wp kr kp) (fun J2834 hJ2834 => ?_) ?_
      ·refine wp_seq ?_
       refine wp_region_list <| st1 hS (mv rfl) rfl fun a w hS => st1 hS (mv rfl) rfl fun a w hS => st1 hS (bin rfl rfl rfl) rfl fun a w hS => st1 hS (mv rfl) rfl fun a w hS => g_op 3 true 181 (b := (decide (start2817 < m2532))) (r := (decide (m2532 < end_2819))) hS rfl rfl rfl rfl rfl rfl rfl (fun hb a w hS K hK => ?_) rfl fun a w hS => ?_
       ·refine st1g hS rfl rfl rfl hb (mv rfl) rfl fun a w hS => ?_
        refine st1g hS rfl rfl rfl hb (mv rfl) rfl fun a w hS => st1g hS rfl rfl rfl hb (bin rfl rfl rfl) rfl fun a w hS => ?_
        exact wpList_nil (hK _ _ (hS.up 3 rfl rfl))
       refine wpList_nil <| then_n <| s_cond hS rfl hM (fun hb2820 hM => ?_) (fun hb2820 hM => ?_)
       ·refine wp_region_list ?_
        refine st1 hS (mv rfl) rfl fun a w hS => st1 hS (mv rfl) rfl fun a w hS => st1 hS (mv rfl) rfl fun a w hS => st1 hS (mv rfl) rfl fun a w hS => st1 hS (mv rfl) rfl fun a w hS => s_call hS rfl Tryd.call108 (slices_rotateCmpFunc_huff_packet__b6e1_7e8b_c hG K data2523 start2817 m2532 end_2819 p2524 A2525 c2526 rw2527 f2529 hr2528 hV2530 (hS.st.part 2 [0, 1] (by kernel_rfl)) (wp_bind hM) (fun rw2821 data2822 f2823 w hM h2824 h2825 h2826 hst => s_back hS.ev hst.appF rfl fun hS => ?_))
        replace hS : Ss _ _ _ H [p2524, f2823] F _ _ := hS
        have hz2827 := Eq.trans h2826 hz2535
        replace hS := hS.re 0 (u := .slice A2525 rw2527.length c2526) (v := .slice A2525 rw2821.length c2526) rfl (by rw [h2826])
        replace hS := hS.re 186 (u := .slice A2525 rw2527.length c2526) (v := .slice A2525 rw2821.length c2526) rfl (by rw [h2826])
        refine wpList_nil <| then_n ?_
        exact hJ2834 _ _ ⟨rw2821, data2822, f2823, hS.to [0, 1] (by kernel_rfl) ⟨rfl, rfl, rfl, rfl, rfl, rfl, rfl, trivial⟩, h2824, h2825, hz2827, hM⟩
       ·refine wp_skip ?_
        refine then_n ?_
        exact hJ2834 _ _ ⟨rw2527, data2523, f2529, hS.to [0, 1] (by kernel_rfl) ⟨rfl, rfl, rfl, rfl, rfl, rfl, rfl, trivial⟩, hV2530, hr2528, hz2535, hM⟩
      ·intro a w hI
       obtain ⟨rw2828, data2829, f2830, hS, hV2831, hr2832, hz2833, hM⟩ := hI
       rw [slices_symMergeCmpFunc_huff_packet__b6e1_7e8b.j12] at hM
       refine seq_joinJ (fun a w => ∃ (rw2843 : List (Row 2)) (data2844 : (List T_huff_packet)) (f2845 : Frag), Ss 220 [] [(0, .slice A2525 rw2843.length c2526), (3, .int .i64 b_2533), (4, fnv 57 [] []), (18, .int .i64 mid2786), (24, .int .i64 end_2819)] H [p2524, f2845] F a w ∧ (Vec 112 (Row.v (sz := 2)) 2 A2525 rw2843 c2526 f2845) ∧ (RelL (R_huff_packet p2524) data2844 rw2843) ∧ (rw2843.length = rw2527.length) ∧ (slices_symMergeCmpFunc_huff_packet__b6e1_7e8b.j13 K (slices_symMergeCmpFunc_huff_packet__b6e1_7e8b.r K d) b_2533 mid2786 end_2819 data2844).wp kr kp) (fun J2849 hJ2849 => ?_) ?_
       ·refine wp_seq ?_
        refine wp_region_list <| st1 hS (mv rfl) rfl fun a w hS => st1 hS (mv rfl) rfl fun a w hS => st1 hS (bin rfl rfl rfl) rfl fun a w hS => st1 hS (mv rfl) rfl fun a w hS => g_op 3 true 195 (b := (decide (a_2531 < start2817))) (r := (decide (start2817 < mid2786))) hS rfl rfl rfl rfl rfl rfl rfl (fun hb a w hS K hK => ?_) rfl fun a w hS => ?_
        ·refine st1g hS rfl rfl rfl hb (mv rfl) rfl fun a w hS => ?_
         refine st1g hS rfl rfl rfl hb (mv rfl) rfl fun a w hS => st1g hS rfl rfl rfl hb (bin rfl rfl rfl) rfl fun a w hS => ?_
         exact wpList_nil (hK _ _ (hS.up 3 rfl rfl))
        refine wpList_nil <| then_n <| s_cond hS rfl hM (fun hb2835 hM => ?_) (fun hb2835 hM => ?_)
        ·refine wp_region_list ?_
         refine st1 hS (mv rfl) rfl fun a w hS => st1 hS (mv rfl) rfl fun a w hS => st1 hS (mv rfl) rfl fun a w hS => st1 hS (mv rfl) rfl fun a w hS => st1 hS (mv rfl) rfl fun a w hS => s_call hS rfl Tryd.call100 (ih hG  data2829 a_2531 start2817 mid2786 p2524 A2525 c2526 rw2828 f2830 hr2832 hV2831 (hS.st.part 2 [0, 1] (by kernel_rfl)) (wp_bind hM) (fun rw2836 data2837 f2838 w hM h2839 h2840 h2841 hst => s_back hS.ev hst.appF rfl fun hS => ?_))
         replace hS : Ss _ _ _ H [p2524, f2838] F _ _ := hS
         have hz2842 := Eq.trans h2841 hz2833
         replace hS := hS.re 0 (u := .slice A2525 rw2828.length c2526) (v := .slice A2525 rw2836.length c2526) rfl (by rw [h2841])
         replace hS := hS.re 200 (u := .slice A2525 rw2828.length c2526) (v := .slice A2525 rw2836.length c2526) rfl (by rw [h2841])
         refine wpList_nil <| then_n ?_
         exact hJ2849 _ _ ⟨rw2836, data2837, f2838, hS.to [0, 1] (by kernel_rfl) ⟨rfl, rfl, rfl, rfl, rfl, trivial⟩, h2839, h2840, hz2842, hM⟩
        ·refine wp_skip ?_
         refine then_n ?_
         exact hJ2849 _ _ ⟨rw2828, data2829, f2830, hS.to [0, 1] (by kernel_rfl) ⟨rfl, rfl, rfl, rfl, rfl, trivial⟩, hV2831, hr2832, hz2833, hM⟩
       ·intro a w hI
        obtain ⟨rw2843, data2844, f2845, hS, hV2846, hr2847, hz2848, hM⟩ := hI
        rw [slices_symMergeCmpFunc_huff_packet__b6e1_7e8b.j13] at hM
        refine wp_seq <| wp_region_list <| st1 hS (mv rfl) rfl fun a w hS => st1 hS (mv rfl) rfl fun a w hS => st1 hS (bin rfl rfl rfl) rfl fun a w hS => st1 hS (mv rfl) rfl fun a w hS => g_op 3 true 209 (b := (decide (mid2786 < end_2819))) (r := (decide (end_2819 < b_2533))) hS rfl rfl rfl rfl rfl rfl rfl (fun hb a w hS K hK => ?_) rfl fun a w hS => ?_
        ·refine st1g hS rfl rfl rfl hb (mv rfl) rfl fun a w hS => ?_
         refine st1g hS rfl rfl rfl hb (mv rfl) rfl fun a w hS => st1g hS rfl rfl rfl hb (bin rfl rfl rfl) rfl fun a w hS => ?_
         exact wpList_nil (hK _ _ (hS.up 3 rfl rfl))
        refine wpList_nil <| then_n <| s_cond hS rfl hM (fun hb2850 hM => ?_) (fun hb2850 hM => ?_)
        ·refine wp_region_list ?_
         refine st1 hS (mv rfl) rfl fun a w hS => st1 hS (mv rfl) rfl fun a w hS => st1 hS (mv rfl) rfl fun a w hS => st1 hS (mv rfl) rfl fun a w hS => st1 hS (mv rfl) rfl fun a w hS => s_call hS rfl Tryd.call100 (ih hG  data2844 mid2786 end_2819 b_2533 p2524 A2525 c2526 rw2843 f2845 hr2847 hV2846 (hS.st.part 2 [0, 1] (by kernel_rfl)) (wp_bind hM) (fun rw2851 data2852 f2853 w hM h2854 h2855 h2856 hst => s_back hS.ev hst.appF rfl fun hS => ?_))
         replace hS : Ss _ _ _ H [p2524, f2853] F _ _ := hS
         have hz2857 := Eq.trans h2856 hz2848
         replace hS := hS.re 0 (u := .slice A2525 rw2843.length c2526) (v := .slice A2525 rw2851.length c2526) rfl (by rw [h2856])
         replace hS := hS.re 214 (u := .slice A2525 rw2843.length c2526) (v := .slice A2525 rw2851.length c2526) rfl (by rw [h2856])
         refine wpList_nil ?_
         exact s_end (rs := []) hS rfl rfl (hret rw2851 data2852 f2853 w (wp_ok hM) h2854 h2855 hz2857 (hS.st.pick [0, 1] (by kernel_rfl)))
        ·refine wp_skip ?_
         exact s_end (rs := []) hS rfl rfl (hret rw2843 data2844 f2845 w (wp_ok hM) hV2846 hr2847 hz2848 (hS.st.pick [0, 1] (by kernel_rfl)))

theorem slices_symMergeCmpFunc_huff_packet__b6e1_7e8b_c {H : Imm} {F : List Frag} {w : World} {R : Ending → World → Prop} {kr : (List T_huff_packet) → Prop} {kp : Value → Prop} (hG : Gl H) (K : Nat) (data2523 : List T_huff_packet) (a_2531 : Int) (m2532 : Int) (b_2533 : Int) (p2524 : Frag) (A2525 : Option Addr) (c2526 : Nat) (rw2527 : List (Row 2)) (f2529 : Frag) (hr2528 : RelL (R_huff_packet p2524) data2523 rw2527) (hV2530 : Vec 112 (Row.v (sz := 2)) 2 A2525 rw2527 c2526 f2529)
    (hS : St w H [p2524, f2529] F) (hm : (slices_symMergeCmpFunc_huff_packet__b6e1_7e8b.m K data2523 a_2531 m2532 b_2533).wp kr kp)
    (hret : ∀ (rw2858 : List (Row 2)) (data2859 : (List T_huff_packet)) (f2860 : Frag) (w : World), kr data2859 → (Vec 112 (Row.v (sz := 2)) 2 A2525 rw2858 c2526 f2860) → (RelL (R_huff_packet p2524) data2859 rw2858) → (rw2858.length = rw2527.length) → St w H [p2524, f2860] F → R (.returned (.tuple ⟨[]⟩)) w) :
    Calls Tryd.prog 100 ⟨[.slice A2525 rw2527.length c2526, .int .i64 a_2531, .int .i64 m2532, .int .i64 b_2533, fnv 57 [] []]⟩ w R := slices_symMergeCmpFunc_huff_packet__b6e1_7e8b_cr K K hG data2523 a_2531 m2532 b_2533 p2524 A2525 c2526 rw2527 f2529 hr2528 hV2530 hS hm hret

theorem slices_stableCmpFunc_huff_packet__b6e1_8977_c {H : Imm} {F : List Frag} {w : World} {R : Ending → World → Prop} {kr : (List T_huff_packet) → Prop} {kp : Value → Prop} (hG : Gl H) (K : Nat) (data1578 : List T_huff_packet) (n_1586 : Int) (p1579 : Frag) (A1580 : Option Addr) (c1581 : Nat) (rw1582 : List (Row 2)) (f1584 : Frag) (hr1583 : RelL (R_huff_packet p1579) data1578 rw1582) (hV1585 : Vec 112 (Row.v (sz := 2)) 2 A1580 rw1582 c1581 f1584)
    (hS : St w H [p1579, f1584] F) (hm : (slices_stableCmpFunc_huff_packet__b6e1_8977.m K data1578 n_1586).wp kr kp)
    (hret : ∀ (rw2994 : List (Row 2)) (data2995 : (List T_huff_packet)) (f2996 : Frag) (w : World), kr data2995 → (Vec 112 (Row.v (sz := 2)) 2 A1580 rw2994 c1581 f2996) → (RelL (R_huff_packet p1579) data2995 rw2994) → (rw2994.length = rw1582.length) → St w H [p1579, f2996] F → R (.returned (.tuple ⟨[]⟩)) w) :
    Calls Tryd.prog 81 ⟨[.slice A1580 rw1582.length c1581, .int .i64 n_1586, fnv 57 [] []]⟩ w R := by
 refine enter Tryd.func81 rfl Tryd.ntmps81 rfl hS fun a w hS => ?_
 have hM := hm; clear hm
 rw [slices_stableCmpFunc_huff_packet__b6e1_8977.m] at hM
 have hs1587 : ∀ q ∈ p1579, q ∈ p1579 := fun _ h => h
 have hz1588 : rw1582.length = rw1582.length := rfl
 refine wp_seq <| wp_region_list <| st1 hS (asg rfl) rfl fun a w hS => wpList_nil <| then_n <| wp_seq <| wp_region_list <| st1 hS (mv rfl) rfl fun a w hS => st1 hS (asg rfl) rfl fun a w hS => st1 hS (asg rfl) rfl fun a w hS => wpList_nil <| then_n <| seq_joinJ (fun a w => ∃ (rw1970 : List (Row 2)) (data1971 : (List T_huff_packet)) (f1972 : Frag) (a_1976 : Int), Ss 63 [] [(0, .slice A1580 rw1970.length c1581), (1, .int .i64 n_1586), (2, fnv 57 [] []), (6, .int .i64 (20 : Int)), (7, .int .i64 a_1976)] H [p1579, f1972] F a w ∧ (Vec 112 (Row.v (sz := 2)) 2 A1580 rw1970 c1581 f1972) ∧ (RelL (R_huff_packet p1579) data1971 rw1970) ∧ (rw1970.length = rw1582.length) ∧ (slices_stableCmpFunc_huff_packet__b6e1_8977.j2 K n_1586 data1971 a_1976).wp kr kp) (fun J1977 hJ1977 => ?_) ?_
 ·refine wp_block ?_
  refine s_loopJ (fun k1959 a w => ∃ (rw1951 : List (Row 2)) (data1952 : (List T_huff_packet)) (f1953 : Frag) (a_1957 : Int) (b_1958 : Int), Ss 63 [] [(0, .slice A1580 rw1951.length c1581), (1, .int .i64 n_1586), (2, fnv 57 [] []), (6, .int .i64 (20 : Int)), (7, .int .i64 a_1957), (8, .int .i64 b_1958)] H [p1579, f1953] F a w ∧ (Vec 112 (Row.v (sz := 2)) 2 A1580 rw1951 c1581 f1953) ∧ (RelL (R_huff_packet p1579) data1952 rw1951) ∧ (rw1951.length = rw1582.length) ∧ (slices_stableCmpFunc_huff_packet__b6e1_8977.l1 K n_1586 k1959 data1952 a_1957 b_1958).wp kr kp) K ?_ ?_ ?_
  ·exact ⟨rw1582, data1578, f1584, (0 : Int), (20 : Int), hS.to [0, 1] (by kernel_rfl) ⟨rfl, rfl, rfl, rfl, rfl, rfl, trivial⟩, hV1585, hr1583, hz1588, hM⟩
  ·intro a w hI; obtain ⟨_, _, _, _, _, _, _, _, _, hM⟩ := hI; exact wp_fail hM
  ·intro k1959 a w hI J1969 hJ1969
   obtain ⟨rw1951, data1952, f1953, a_1957, b_1958, hS, hV1954, hr1955, hz1956, hM⟩ := hI
   rw [slices_stableCmpFunc_huff_packet__b6e1_8977.l1] at hM
   refine wp_seq <| wp_seq <| wp_region_list <| st1 hS (mv rfl) rfl fun a w hS => st1 hS (mv rfl) rfl fun a w hS => st1 hS (bin rfl rfl rfl) rfl fun a w hS => wpList_nil <| then_n <| s_cond hS rfl hM (fun hb1960 hM => ?_) (fun hb1960 hM => ?_)
   ·refine wp_skip ?_
    refine then_n <| wp_block <| wp_seq <| wp_region_list <| st1 hS (mv rfl) rfl fun a w hS => st1 hS (mv rfl) rfl fun a w hS => st1 hS (mv rfl) rfl fun a w hS => st1 hS (mv rfl) rfl fun a w hS => s_call hS rfl Tryd.call99 (slices_insertionSortCmpFunc_huff_packet__b6e1_5de2_c hG K data1952 a_1957 b_1958 p1579 A1580 c1581 rw1951 f1953 hr1955 hV1954 (hS.st.part 2 [0, 1] (by kernel_rfl)) (wp_bind hM) (fun rw1961 data1962 f1963 w hM h1964 h1965 h1966 hst => s_back hS.ev hst.appF rfl fun hS => ?_))
    replace hS : Ss _ _ _ H [p1579, f1963] F _ _ := hS
    have hz1967 := Eq.trans h1966 hz1956
    replace hS := hS.re 0 (u := .slice A1580 rw1951.length c1581) (v := .slice A1580 rw1961.length c1581) rfl (by rw [h1966])
    replace hS := hS.re 14 (u := .slice A1580 rw1951.length c1581) (v := .slice A1580 rw1961.length c1581) rfl (by rw [h1966])
    refine wpList_nil <| then_n <| wp_seq <| wp_region_list <| st1 hS (mv rfl) rfl fun a w hS => st1 hS (asg rfl) rfl fun a w hS => wpList_nil <| then_n <| wp_region_list <| st1 hS (mv rfl) rfl fun a w hS => st1 hS (mv rfl) rfl fun a w hS => st1 hS (bin rfl rfl rfl) rfl fun a w hS => st1x (v := Value.int .i64) (x0 := (w64 (b_1958 + (20 : Int)))) hS (asg rfl) rfl fun b_1968 a w hz hS => ?_
    have hM := lt_to hz hM; clear hz
    refine wpList_nil <| blk_n (then_n ?_)
    exact hJ1969 _ _ ⟨rw1961, data1962, f1963, b_1958, b_1968, hS.to [0, 1] (by kernel_rfl) ⟨rfl, rfl, rfl, rfl, rfl, rfl, trivial⟩, h1964, h1965, hz1967, hM⟩
   ·refine wp_exit ?_
    refine then_ex (then_ex (blk_same (then_n ?_)))
    exact hJ1977 _ _ ⟨rw1951, data1952, f1953, a_1957, hS.to [0, 1] (by kernel_rfl) ⟨rfl, rfl, rfl, rfl, rfl, trivial⟩, hV1954, hr1955, hz1956, hM⟩
 ·intro a w hI
  obtain ⟨rw1970, data1971, f1972, a_1976, hS, hV1973, hr1974, hz1975, hM⟩ := hI
  rw [slices_stableCmpFunc_huff_packet__b6e1_8977.j2] at hM
  refine wp_seq <| wp_region_list <| st1 hS (mv rfl) rfl fun a w hS => st1 hS (mv rfl) rfl fun a w hS => st1 hS (mv rfl) rfl fun a w hS => st1 hS (mv rfl) rfl fun a w hS => s_call hS rfl Tryd.call99 (slices_insertionSortCmpFunc_huff_packet__b6e1_5de2_c hG K data1971 a_1976 n_1586 p1579 A1580 c1581 rw1970 f1972 hr1974 hV1973 (hS.st.part 2 [0, 1] (by kernel_rfl)) (wp_bind hM) (fun rw1978 data1979 f1980 w hM h1981 h1982 h1983 hst => s_back hS.ev hst.appF rfl fun hS => ?_))
  replace hS : Ss _ _ _ H [p1579, f1980] F _ _ := hS
  have hz1984 := Eq.trans h1983 hz1975
  replace hS := hS.re 0 (u := .slice A1580 rw1970.length c1581) (v := .slice A1580 rw1978.length c1581) rfl (by rw [h1983])
  replace hS := hS.re 23 (u := .slice A1580 rw1970.length c1581) (v := .slice A1580 rw1978.length c1581) rfl (by rw [h1983])
  refine wpList_nil <| then_n <| wp_block <| s_loopJ (fun k2932 a w => ∃ (rw2925 : List (Row 2)) (data2926 : (List T_huff_packet)) (f2927 : Frag) (blockSize2931 : Int), Ss 63 [] [(0, .slice A1580 rw2925.length c1581), (1, .int .i64 n_1586), (2, fnv 57 [] []), (6, .int .i64 blockSize2931)] H [p1579, f2927] F a w ∧ (Vec 112 (Row.v (sz := 2)) 2 A1580 rw2925 c1581 f2927) ∧ (RelL (R_huff_packet p1579) data2926 rw2925) ∧ (rw2925.length = rw1582.length) ∧ (slices_stableCmpFunc_huff_packet__b6e1_8977.l3 K n_1586 k2932 data2926 blockSize2931).wp kr kp) K ?_ ?_ ?_
  ·exact ⟨rw1978, data1979, f1980, (20 : Int), hS.to [0, 1] (by kernel_rfl) ⟨rfl, rfl, rfl, rfl, trivial⟩, h1981, h1982, hz1984, hM⟩
  ·intro a w hI; obtain ⟨_, _, _, _, _, _, _, _, hM⟩ := hI; exact wp_fail hM
  ·intro k2932 a w hI J2993 hJ2993
   obtain ⟨rw2925, data2926, f2927, blockSize2931, hS, hV2928, hr2929, hz2930, hM⟩ := hI
   rw [slices_stableCmpFunc_huff_packet__b6e1_8977.l3] at hM
   refine wp_seq <| wp_seq <| wp_region_list <| st1 hS (mv rfl) rfl fun a w hS => st1 hS (mv rfl) rfl fun a w hS => st1 hS (bin rfl rfl rfl) rfl fun a w hS => wpList_nil <| then_n <| s_cond hS rfl hM (fun hb2933 hM => ?_) (fun hb2933 hM => ?_)
   ·refine wp_skip ?_
    refine then_n <| wp_block <| wp_seq <| wp_region_list <| st1 hS (mv rfl) rfl fun a w hS => st1 hS (bin rfl rfl rfl) rfl fun a w hS => st1 hS (asg rfl) rfl fun a w hS => st1x (v := Value.int .i64) (x0 := (w64 ((2 : Int) * blockSize2931))) hS (asg rfl) rfl fun b_2934 a w hz hS => ?_
    have hM := lt_to hz hM; clear hz
    refine wpList_nil <| then_n <| seq_joinJ (fun a w => ∃ (rw2974 : List (Row 2)) (data2975 : (List T_huff_packet)) (f2976 : Frag) (a_2980 : Int), Ss 63 [] [(0, .slice A1580 rw2974.length c1581), (1, .int .i64 n_1586), (2, fnv 57 [] []), (6, .int .i64 blockSize2931), (7, .int .i64 a_2980)] H [p1579, f2976] F a w ∧ (Vec 112 (Row.v (sz := 2)) 2 A1580 rw2974 c1581 f2976) ∧ (RelL (R_huff_packet p1579) data2975 rw2974) ∧ (rw2974.length = rw1582.length) ∧ (slices_stableCmpFunc_huff_packet__b6e1_8977.j5 K (slices_stableCmpFunc_huff_packet__b6e1_8977.l3 K n_1586 k2932) n_1586 blockSize2931 data2975 a_2980).wp kr kp) (fun J2981 hJ2981 => ?_) ?_
    ·refine wp_block ?_
     refine s_loopJ (fun k2963 a w => ∃ (rw2955 : List (Row 2)) (data2956 : (List T_huff_packet)) (f2957 : Frag) (a_2961 : Int) (b_2962 : Int), Ss 63 [] [(0, .slice A1580 rw2955.length c1581), (1, .int .i64 n_1586), (2, fnv 57 [] []), (6, .int .i64 blockSize2931), (7, .int .i64 a_2961), (8, .int .i64 b_2962)] H [p1579, f2957] F a w ∧ (Vec 112 (Row.v (sz := 2)) 2 A1580 rw2955 c1581 f2957) ∧ (RelL (R_huff_packet p1579) data2956 rw2955) ∧ (rw2955.length = rw1582.length) ∧ (slices_stableCmpFunc_huff_packet__b6e1_8977.l4 K (slices_stableCmpFunc_huff_packet__b6e1_8977.l3 K n_1586 k2932) n_1586 blockSize2931 k2963 data2956 a_2961 b_2962).wp kr kp) K ?_ ?_ ?_
     ·exact ⟨rw2925, data2926, f2927, (0 : Int), b_2934, hS.to [0, 1] (by kernel_rfl) ⟨rfl, rfl, rfl, rfl, rfl, rfl, trivial⟩, hV2928, hr2929, hz2930, hM⟩
     ·intro a w hI; obtain ⟨_, _, _, _, _, _, _, _, _, hM⟩ := hI; exact wp_fail hM
     ·intro k2963 a w hI J2973 hJ2973
      obtain ⟨rw2955, data2956, f2957, a_2961, b_2962, hS, hV2958, hr2959, hz2960, hM⟩ := hI
      rw [slices_stableCmpFunc_huff_packet__b6e1_8977.l4] at hM
      refine wp_seq <| wp_seq <| wp_region_list <| st1 hS (mv rfl) rfl fun a w hS => st1 hS (mv rfl) rfl fun a w hS => st1 hS (bin rfl rfl rfl) rfl fun a w hS => wpList_nil <| then_n <| s_cond hS rfl hM (fun hb2964 hM => ?_) (fun hb2964 hM => ?_)
      ·refine wp_skip ?_
       refine then_n <| wp_block <| wp_seq <| wp_region_list <| st1 hS (mv rfl) rfl fun a w hS => st1 hS (mv rfl) rfl fun a w hS => st1 hS (mv rfl) rfl fun a w hS => st1 hS (mv rfl) rfl fun a w hS => st1 hS (bin rfl rfl rfl) rfl fun a w hS => st1 hS (mv rfl) rfl fun a w hS => st1 hS (mv rfl) rfl fun a w hS => s_call hS rfl Tryd.call100 (slices_symMergeCmpFunc_huff_packet__b6e1_7e8b_c hG K data2956 a_2961 (w64 (a_2961 + blockSize2931)) b_2962 p1579 A1580 c1581 rw2955 f2957 hr2959 hV2958 (hS.st.part 2 [0, 1] (by kernel_rfl)) (wp_bind hM) (fun rw2965 data2966 f2967 w hM h2968 h2969 h2970 hst => s_back hS.ev hst.appF rfl fun hS => ?_))
       replace hS : Ss _ _ _ H [p1579, f2967] F _ _ := hS
       have hz2971 := Eq.trans h2970 hz2960
       replace hS := hS.re 0 (u := .slice A1580 rw2955.length c1581) (v := .slice A1580 rw2965.length c1581) rfl (by rw [h2970])
       replace hS := hS.re 36 (u := .slice A1580 rw2955.length c1581) (v := .slice A1580 rw2965.length c1581) rfl (by rw [h2970])
       refine wpList_nil <| then_n <| wp_seq <| wp_region_list <| st1 hS (mv rfl) rfl fun a w hS => st1 hS (asg rfl) rfl fun a w hS => wpList_nil <| then_n <| wp_region_list <| st1 hS (mv rfl) rfl fun a w hS => st1 hS (mv rfl) rfl fun a w hS => st1 hS (bin rfl rfl rfl) rfl fun a w hS => st1 hS (bin rfl rfl rfl) rfl fun a w hS => st1x (v := Value.int .i64) (x0 := (w64 (b_2962 + (w64 ((2 : Int) * blockSize2931))))) hS (asg rfl) rfl fun b_2972 a w hz hS => ?_
       have hM := lt_to hz hM; clear hz
       refine wpList_nil <| blk_n (then_n ?_)
       exact hJ2973 _ _ ⟨rw2965, data2966, f2967, b_2962, b_2972, hS.to [0, 1] (by kernel_rfl) ⟨rfl, rfl, rfl, rfl, rfl, rfl, trivial⟩, h2968, h2969, hz2971, hM⟩
      ·refine wp_exit ?_
       refine then_ex (then_ex (blk_same (then_n ?_)))
       exact hJ2981 _ _ ⟨rw2955, data2956, f2957, a_2961, hS.to [0, 1] (by kernel_rfl) ⟨rfl, rfl, rfl, rfl, rfl, trivial⟩, hV2958, hr2959, hz2960, hM⟩
    ·intro a w hI
     obtain ⟨rw2974, data2975, f2976, a_2980, hS, hV2977, hr2978, hz2979, hM⟩ := hI
     rw [slices_stableCmpFunc_huff_packet__b6e1_8977.j5] at hM
     refine wp_seq <| wp_seq <| wp_region_list <| st1 hS (mv rfl) rfl fun a w hS => st1 hS (mv rfl) rfl fun a w hS => st1 hS (bin rfl rfl rfl) rfl fun a w hS => st1x (v := Value.int .i64) (x0 := (w64 (a_2980 + blockSize2931))) hS (asg rfl) rfl fun m2982 a w hz hS => ?_
     have hM := lt_to hz hM; clear hz
     refine wpList_nil <| then_n <| wp_seq <| wp_region_list <| st1 hS (mv rfl) rfl fun a w hS => st1 hS (mv rfl) rfl fun a w hS => st1 hS (bin rfl rfl rfl) rfl fun a w hS => wpList_nil <| then_n <| s_cond hS rfl hM (fun hb2983 hM => ?_) (fun hb2983 hM => ?_)
     ·refine wp_region_list ?_
      refine st1 hS (mv rfl) rfl fun a w hS => st1 hS (mv rfl) rfl fun a w hS => st1 hS (mv rfl) rfl fun a w hS => st1 hS (mv rfl) rfl fun a w hS => st1 hS (mv rfl) rfl fun a w hS => s_call hS rfl Tryd.call100 (slices_symMergeCmpFunc_huff_packet__b6e1_7e8b_c hG K data2975 a_2980 m2982 n_1586 p1579 A1580 c1581 rw2974 f2976 hr2978 hV2977 (hS.st.part 2 [0, 1] (by kernel_rfl)) (wp_bind hM) (fun rw2984 data2985 f2986 w hM h2987 h2988 h2989 hst => s_back hS.ev hst.appF rfl fun hS => ?_))
      replace hS : Ss _ _ _ H [p1579, f2986] F _ _ := hS
      have hz2990 := Eq.trans h2989 hz2979
      replace hS := hS.re 0 (u := .slice A1580 rw2974.length c1581) (v := .slice A1580 rw2984.length c1581) rfl (by rw [h2989])
      replace hS := hS.re 55 (u := .slice A1580 rw2974.length c1581) (v := .slice A1580 rw2984.length c1581) rfl (by rw [h2989])
      refine wpList_nil <| then_n <| wp_region_list <| st1 hS (mv rfl) rfl fun a w hS => st1 hS (bin rfl rfl rfl) rfl fun a w hS => st1x (v := Value.int .i64) (x0 := (w64 (blockSize2931 * (2 : Int)))) hS (asg rfl) rfl fun blockSize2991 a w hz hS => ?_
      have hM := lt_to hz hM; clear hz
      refine wpList_nil <| blk_n (then_n ?_)
      exact hJ2993 _ _ ⟨rw2984, data2985, f2986, blockSize2991, hS.to [0, 1] (by kernel_rfl) ⟨rfl, rfl, rfl, rfl, trivial⟩, h2987, h2988, hz2990, hM⟩
     ·refine wp_skip ?_
      refine then_n <| wp_region_list <| st1 hS (mv rfl) rfl fun a w hS => st1 hS (bin rfl rfl rfl) rfl fun a w hS => st1x (v := Value.int .i64) (x0 := (w64 (blockSize2931 * (2 : Int)))) hS (asg rfl) rfl fun blockSize2992 a w hz hS => ?_
      have hM := lt_to hz hM; clear hz
      refine wpList_nil <| blk_n (then_n ?_)
      exact hJ2993 _ _ ⟨rw2974, data2975, f2976, blockSize2992, hS.to [0, 1] (by kernel_rfl) ⟨rfl, rfl, rfl, rfl, trivial⟩, hV2977, hr2978, hz2979, hM⟩
   ·refine wp_exit ?_
    refine then_ex (then_ex (blk_same ?_))
    exact s_end (rs := []) hS rfl rfl (hret rw2925 data2926 f2927 w (wp_ok hM) hV2928 hr2929 hz2930 (hS.st.pick [0, 1] (by kernel_rfl)))

theorem slices_SortStableFunc___huff_packet_huff_packet__b6e1_f289_c {H : Imm} {F : List Frag} {w : World} {R : Ending → World → Prop} {kr : (List T_huff_packet) → Prop} {kp : Value → Prop} (hG : Gl H) (K : Nat) (x1568 : List T_huff_packet) (p1569 : Frag) (A1570 : Option Addr) (c1571 : Nat) (rw1572 : List (Row 2)) (f1574 : Frag) (hr1573 : RelL (R_huff_packet p1569) x1568 rw1572) (hV1575 : Vec 112 (Row.v (sz := 2)) 2 A1570 rw1572 c1571 f1574)
    (hS : St w H [p1569, f1574] F) (hm : (slices_SortStableFunc___huff_packet_huff_packet__b6e1_f289.m K x1568).wp kr kp)
    (hret : ∀ (rw3007 : List (Row 2)) (x3008 : (List T_huff_packet)) (f3009 : Frag) (w : World), kr x3008 → (Vec 112 (Row.v (sz := 2)) 2 A1570 rw3007 c1571 f3009) → (RelL (R_huff_packet p1569) x3008 rw3007) → (rw3007.length = rw1572.length) → St w H [p1569, f3009] F → R (.returned (.tuple ⟨[]⟩)) w) :
    Calls Tryd.prog 56 ⟨[.slice A1570 rw1572.length c1571, fnv 57 [] []]⟩ w R := by
 refine enter Tryd.func56 rfl Tryd.ntmps56 rfl hS fun a w hS => ?_
 have hM := hm; clear hm
 rw [slices_SortStableFunc___huff_packet_huff_packet__b6e1_f289.m] at hM
 have hs1576 : ∀ q ∈ p1569, q ∈ p1569 := fun _ h => h
 have hz1577 : rw1572.length = rw1572.length := rfl
 refine wp_region_list <| st1 hS (mv rfl) rfl fun a w hS => st1 hS (mv rfl) rfl fun a w hS => st1 hS (ovE (v' := .int .i64 (x1568.length : Int)) (lenV rfl Tryd.runUnderlying110) (by rw [hr1573.len])) rfl fun a w hS => st1 hS (mv rfl) rfl fun a w hS => s_call hS rfl Tryd.call81 (slices_stableCmpFunc_huff_packet__b6e1_8977_c hG K x1568 (x1568.length : Int) p1569 A1570 c1571 rw1572 f1574 hr1573 hV1575 (hS.st.part 2 [0, 1] (by kernel_rfl)) (wp_bind hM) (fun rw3000 data3001 f3002 w hM h3003 h3004 h3005 hst => s_back hS.ev hst.appF rfl fun hS => ?_))
 replace hS : Ss _ _ _ H [p1569, f3002] F _ _ := hS
 have hz3006 := Eq.trans h3005 hz1577
 replace hS := hS.re 0 (u := .slice A1570 rw1572.length c1571) (v := .slice A1570 rw3000.length c1571) rfl (by rw [h3005])
 replace hS := hS.re 4 (u := .slice A1570 rw1572.length c1571) (v := .slice A1570 rw3000.length c1571) rfl (by rw [h3005])
 replace hS := hS.re 5 (u := .slice A1570 rw1572.length c1571) (v := .slice A1570 rw3000.length c1571) rfl (by rw [h3005])
 refine wpList_nil ?_
 exact s_end (rs := []) hS rfl rfl (hret rw3000 data3001 f3002 w (wp_ok hM) h3003 h3004 hz3006 (hS.st.pick [0, 1] (by kernel_rfl)))

def R_s_int (p : Frag) (x : (List Int)) (vs : List Value) : Prop :=
  ∃ (A0 : Option Addr) (c0 : Nat), vs = [.slice A0 x.length c0] ∧ Pl p (ci .i64) A0 x ∧ x.length ≤ c0
theorem R_s_int.mono {p p' : Frag} (hs : ∀ q ∈ p, q ∈ p') {x : (List Int)} {vs : List Value} (h : R_s_int p x vs) : R_s_int p' x vs := by
  obtain ⟨A0, c0, h0, h1, h2⟩ := h
  exact ⟨A0, c0, h0, h1.mono hs, h2⟩

theorem slices_Grow___int_int__f5f7_c {H : Imm} {F : List Frag} {w : World} {R : Ending → World → Prop} {kr : Unit → Prop} {kp : Value → Prop} (hG : Gl H) (K : Nat) (n_3106 : Int)
    (hS : St w H [] F) (hm : (slices_Grow___int_int__f5f7.m K n_3106).wp kr kp)
    (hret : ∀ (A3121 : Option Addr) (c3122 : Nat) (f3123 : Frag) (w : World), kr () → (Vec 3 (ci .i64) 1 A3121 ([] : List Int) c3122 f3123) → St w H [f3123] F → R (.returned (.slice A3121 ([] : List Int).length c3122)) w)
    (hpan : ∀ v w, kp v → St w H [] F → R (.panicked [⟨v, false, false⟩]) w) :
    Calls Tryd.prog 102 ⟨[.slice none 0 0, .int .i64 n_3106]⟩ w R := by
 refine enter Tryd.func102 rfl Tryd.ntmps102 rfl hS fun a w hS => ?_
 have hM := hm; clear hm
 rw [slices_Grow___int_int__f5f7.m] at hM
 refine wp_seq <| wp_region_list <| st1 hS (asg rfl) rfl fun a w hS => ?_
 obtain ⟨f3107, hV3108, hS⟩ := hS.nilV 3 (ci .i64) 1
 refine wpList_nil <| then_n <| wp_seq <| wp_seq <| wp_region_list <| st1 hS (mv rfl) rfl fun a w hS => st1 hS (bin rfl rfl rfl) rfl fun a w hS => wpList_nil <| then_n <| s_cond hS rfl hM (fun hb3109 hM => ?_) (fun hb3109 hM => ?_)
 ·refine wp_region_list ?_
  refine st1 hS (mkI rfl Tryd.runUnderlying9 rfl) rfl fun a w hS => s_panic hS rfl <| then_pan ?_
  exact ⟨hS.ev.defs, hpan _ _ (wp_pan hM) hS.st.frame⟩
 ·refine wp_skip ?_
  refine then_n <| wp_seq <| wp_seq <| wp_region_list <| st1 hS (mv rfl) rfl fun a w hS => st1 hS (mv rfl) rfl fun a w hS => st1 hS (capN rfl Tryd.runUnderlying45) rfl fun a w hS => st1 hS (mv rfl) rfl fun a w hS => st1 hS (lenV rfl Tryd.runUnderlying45) rfl fun a w hS => st1 hS (bin rfl rfl rfl) rfl fun a w hS => st1 hS (bin rfl rfl rfl) rfl fun a w hS => st1x (v := Value.int .i64) (x0 := (w64 (n_3106 - (w64 ((0 : Int) - (0 : Int)))))) hS (asg rfl) rfl fun n_3110 a w hz hS => ?_
  have hM := lt_to hz hM; clear hz
  refine wpList_nil <| then_n <| wp_seq <| wp_region_list <| st1 hS (mv rfl) rfl fun a w hS => st1 hS (bin rfl rfl rfl) rfl fun a w hS => wpList_nil <| then_n <| s_cond hS rfl hM (fun hb3111 hM => ?_) (fun hb3111 hM => ?_)
  ·refine wp_region_list ?_
   refine st1 hS (mv rfl) rfl fun a w hS => st1 hS (mv rfl) rfl fun a w hS => st1 hS (capN rfl Tryd.runUnderlying45) rfl fun a w hS => st1 hS (slN rfl Tryd.runUnderlying45 Tryd.sizeOf3 (hiS rfl)) rfl fun a w hS => st1 hS (mv rfl) rfl fun a w hS => ?_
   obtain ⟨hk3112, hM⟩ := wp_chk hM
   refine apG (g := (ci .i64)) hS rfl rfl Tryd.runUnderlying45 Tryd.runUnderlying3 X.el3 rfl rfl hk3112 rfl fun w A3113 c3114 f3115 hV3116 hc3117 hA3118 hS => st1 hS (mv rfl) rfl fun a w hS => st1 hS (lenV rfl Tryd.runUnderlying45) rfl fun a w hS => st1 hS (slG rfl Tryd.runUnderlying45 Tryd.sizeOf3 (fun _ => hiS rfl) hc3117 hA3118) rfl fun a w hS => st1 hS (asg rfl) rfl fun a w hS => wpList_nil <| then_n <| wp_seq <| wp_region_list <| st1 hS (mv rfl) rfl fun a w hS => st1 hS (asg rfl) rfl fun a w hS => wpList_nil <| then_n <| wp_ret ?_
   exact s_ret (rs := [4]) hS rfl rfl (hret A3113 c3114 f3115 w (wp_ok hM) hV3116 (hS.st.pick [0] (by kernel_rfl)))
  ·refine wp_skip ?_
   refine then_n <| wp_seq <| wp_region_list <| st1 hS (mv rfl) rfl fun a w hS => st1 hS (asg rfl) rfl fun a w hS => ?_
   obtain ⟨f3119, hV3120, hS⟩ := hS.nilV 3 (ci .i64) 1
   refine wpList_nil <| then_n <| wp_ret ?_
   exact s_ret (rs := [4]) hS rfl rfl (hret none (0) f3119 w (wp_ok hM) hV3120 (hS.st.pick [0] (by kernel_rfl)))

theorem slices_Concat___int_int__c {H : Imm} {F : List Frag} {w : World} {R : Ending → World → Prop} {kr : (List Int) → Prop} {kp : Value → Prop} (hG : Gl H) (K : Nat) (slices3080 : List (List Int)) (p3081 : Frag) (A3082 : Option Addr) (c3083 : Nat) (rw3084 : List (Row 1)) (hr3085 : RelL (R_s_int p3081) slices3080 rw3084) (hp3086 : Pl p3081 (Row.v (sz := 1)) A3082 rw3084) (hc3087 : rw3084.length ≤ c3083)
    (hS : St w H [p3081] F) (hm : (slices_Concat___int_int_.m K slices3080).wp kr kp)
    (hret : ∀ (A3171 : Option Addr) (c3172 : Nat) (x3173 : (List Int)) (f3174 : Frag) (w : World), kr x3173 → (Vec 3 (ci .i64) 1 A3171 x3173 c3172 f3174) → St w H [p3081, f3174] F → R (.returned (.slice A3171 x3173.length c3172)) w)
    (hpan : ∀ v w, kp v → St w H [] F → R (.panicked [⟨v, false, false⟩]) w) :
    Calls Tryd.prog 85 ⟨[.slice A3082 rw3084.length c3083]⟩ w R := by
 refine enter Tryd.func85 rfl Tryd.ntmps85 rfl hS fun a w hS => ?_
 have hM := hm; clear hm
 rw [slices_Concat___int_int_.m] at hM
 have hs3088 : ∀ q ∈ p3081, q ∈ p3081 := fun _ h => h
 refine wp_seq <| wp_region_list <| st1 hS (asg rfl) rfl fun a w hS => ?_
 obtain ⟨f3089, hV3090, hS⟩ := hS.nilV 3 (ci .i64) 1
 refine wpList_nil <| then_n <| wp_seq <| wp_region_list <| st1 hS (asg rfl) rfl fun a w hS => wpList_nil <| then_n <| seq_joinJ (fun a w => ∃ (size3104 : Int), Ss 36 [] [(0, .slice A3082 rw3084.length c3083), (3, .int .i64 size3104)] H [p3081] F a w ∧ (slices_Concat___int_int_.j2 K slices3080 size3104).wp kr kp) (fun J3105 hJ3105 => ?_) ?_
 ·refine wp_seq ?_
  refine wp_region_list <| st1 hS (mv rfl) rfl fun a w hS => st1 hS (ovE (v' := .int .i64 (slices3080.length : Int)) (lenV rfl Tryd.runUnderlying167) (by rw [hr3085.len])) rfl fun a w hS => st1 hS (mv rfl) rfl fun a w hS => wpList_nil <| then_n <| wp_block <| s_loopJ (fun k3093 a w => ∃ (size3091 : Int) (v3092 : Int), Ss 36 [] [(0, .slice A3082 rw3084.length c3083), (3, .int .i64 size3091), (9, .slice A3082 rw3084.length c3083), (10, .int .i64 (slices3080.length : Int)), (11, .int .i64 v3092)] H [p3081] F a w ∧ (slices_Concat___int_int_.l1 K slices3080 k3093 size3091 v3092).wp kr kp) K ?_ ?_ ?_
  ·exact ⟨(0 : Int), (0 : Int), hS.to [1] (by kernel_rfl) ⟨rfl, rfl, rfl, rfl, rfl, trivial⟩, hM⟩
  ·intro a w hI; obtain ⟨_, _, _, hM⟩ := hI; exact wp_fail hM
  ·intro k3093 a w hI J3103 hJ3103
   obtain ⟨size3091, v3092, hS, hM⟩ := hI
   rw [slices_Concat___int_int_.l1] at hM
   refine wp_seq <| wp_region_list <| st1 hS (bin rfl rfl rfl) rfl fun a w hS => wpList_nil <| then_n <| wp_seq <| s_cond hS rfl hM (fun hb3094 hM => ?_) (fun hb3094 hM => ?_)
   ·refine wp_skip ?_
    refine then_n <| wp_seq <| wp_block <| wp_seq <| wp_region_list ?_
    obtain ⟨hk3095, hM⟩ := wp_chk hM
    refine st1 hS (ixV rfl rfl Tryd.runUnderlying167 Tryd.sizeOf45 (hp3086.rd (i := 0) rfl) Row.len rfl (hr3085.inb hk3095)) rfl fun a w hS => ?_
    obtain ⟨A3096, c3097, hw3100, hp3098, hc3099⟩ := hr3085.get hk3095
    refine st1 hS (ldV0 rfl (hp3086.rd (i := 0) rfl) Row.len (hr3085.inb hk3095) (by rw [show Row.v (rd rw3084 v3092) = _ from hw3100]; rfl) Tryd.isAgg45) rfl fun a w hS => st1 hS (asg rfl) rfl fun a w hS => wpList_nil <| then_n <| wp_seq <| wp_region_list <| st1 hS (mv rfl) rfl fun a w hS => st1 hS (mv rfl) rfl fun a w hS => st1 hS (lenV rfl Tryd.runUnderlying45) rfl fun a w hS => st1 hS (bin rfl rfl rfl) rfl fun a w hS => st1x (v := Value.int .i64) (x0 := (w64 (size3091 + ((rd slices3080 v3092).length : Int)))) hS (asg rfl) rfl fun size3101 a w hz hS => ?_
    have hM := lt_to hz hM; clear hz
    refine wpList_nil <| then_n <| wp_seq <| wp_region_list <| st1 hS (mv rfl) rfl fun a w hS => st1 hS (bin rfl rfl rfl) rfl fun a w hS => wpList_nil <| then_n <| s_cond hS rfl hM (fun hb3102 hM => ?_) (fun hb3102 hM => ?_)
    ·refine wp_region_list ?_
     refine st1 hS (mkI rfl Tryd.runUnderlying9 rfl) rfl fun a w hS => s_panic hS rfl <| blk_pan (then_pan (then_pan (blk_pan (then_pan ?_))))
     exact ⟨hS.ev.defs, hpan _ _ (wp_pan hM) hS.st.frame⟩
    ·refine wp_skip ?_
     refine blk_n (then_n ?_)
     refine wp_region_list <| st1 hS (bin rfl rfl rfl) rfl fun a w hS => st1 hS (mv rfl) rfl fun a w hS => wpList_nil <| then_n ?_
     exact hJ3103 _ _ ⟨size3101, (w64 (v3092 + (1 : Int))), hS.to [0] (by kernel_rfl) ⟨rfl, rfl, rfl, rfl, rfl, trivial⟩, hM⟩
   ·refine wp_exit ?_
    refine then_ex (then_ex (blk_same (then_n ?_)))
    exact hJ3105 _ _ ⟨size3091, hS.to [0] (by kernel_rfl) ⟨rfl, rfl, trivial⟩, hM⟩
 ·intro a w hI
  obtain ⟨size3104, hS, hM⟩ := hI
  rw [slices_Concat___int_int_.j2] at hM
  refine wp_seq <| wp_region_list <| st1 hS (mv rfl) rfl fun a w hS => s_call hS rfl Tryd.call102 (slices_Grow___int_int__f5f7_c hG K size3104 (hS.st.part 0 [0] (by kernel_rfl)) (wp_bind hM) (fun A3125 c3126 f3127 w hM h3128 hst => s_back hS.ev hst.appF rfl fun hS => ?_) (fun v w hk hst => s_pan (then_pan (⟨hS.ev.defs, hpan _ _ hk hst.appF.frame⟩))))
  replace hS : Ss _ _ _ H [f3127, p3081] F _ _ := hS
  refine st1 hS (asg rfl) rfl fun a w hS => wpList_nil <| then_n <| wp_seq <| wp_seq <| wp_region_list <| st1 hS (mv rfl) rfl fun a w hS => st1 hS (ovE (v' := .int .i64 (slices3080.length : Int)) (lenV rfl Tryd.runUnderlying167) (by rw [hr3085.len])) rfl fun a w hS => st1 hS (mv rfl) rfl fun a w hS => wpList_nil <| then_n <| wp_block <| s_loopJ (fun k3156 a w => ∃ (A3150 : Option Addr) (c3151 : Nat) (newslice3152 : (List Int)) (f3153 : Frag) (v3155 : Int), Ss 36 [] [(6, .slice A3150 newslice3152.length c3151), (25, .slice A3082 rw3084.length c3083), (26, .int .i64 (slices3080.length : Int)), (27, .int .i64 v3155)] H [p3081, f3153] F a w ∧ (Vec 3 (ci .i64) 1 A3150 newslice3152 c3151 f3153) ∧ (slices_Concat___int_int_.l3 K slices3080 k3156 newslice3152 v3155).wp kr kp) K ?_ ?_ ?_
  ·exact ⟨A3125, c3126, ([] : List Int), f3127, (0 : Int), hS.to [1, 0] (by kernel_rfl) ⟨rfl, rfl, rfl, rfl, trivial⟩, h3128, hM⟩
  ·intro a w hI; obtain ⟨_, _, _, _, _, _, _, hM⟩ := hI; exact wp_fail hM
  ·intro k3156 a w hI J3170 hJ3170
   obtain ⟨A3150, c3151, newslice3152, f3153, v3155, hS, hV3154, hM⟩ := hI
   rw [slices_Concat___int_int_.l3] at hM
   refine wp_seq <| wp_region_list <| st1 hS (bin rfl rfl rfl) rfl fun a w hS => wpList_nil <| then_n <| wp_seq <| s_cond hS rfl hM (fun hb3157 hM => ?_) (fun hb3157 hM => ?_)
   ·refine wp_skip ?_
    refine then_n <| wp_seq <| wp_block <| wp_seq <| wp_region_list ?_
    obtain ⟨hk3158, hM⟩ := wp_chk hM
    refine st1 hS (ixV rfl rfl Tryd.runUnderlying167 Tryd.sizeOf45 (hp3086.rd (i := 0) rfl) Row.len rfl (hr3085.inb hk3158)) rfl fun a w hS => ?_
    obtain ⟨A3159, c3160, hw3163, hp3161, hc3162⟩ := hr3085.get hk3158
    refine st1 hS (ldV0 rfl (hp3086.rd (i := 0) rfl) Row.len (hr3085.inb hk3158) (by rw [show Row.v (rd rw3084 v3155) = _ from hw3163]; rfl) Tryd.isAgg45) rfl fun a w hS => st1 hS (asg rfl) rfl fun a w hS => wpList_nil <| then_n <| wp_region_list <| st1 hS (mv rfl) rfl fun a w hS => st1 hS (mv rfl) rfl fun a w hS => ?_
    obtain ⟨hk3164, hM⟩ := wp_chk hM
    refine apV (ys := (rd slices3080 v3155)) 1 hS rfl rfl hV3154 rfl (hp3161.rd (i := 0) rfl) Tryd.runUnderlying45 Tryd.runUnderlying45 X.el3 (fun _ => rfl) rfl one_t3 hk3164 rfl fun zs3169 w A3165 c3166 f3167 hz hV3168 hS => ?_
    have hM := lt_to hz hM; clear hz
    refine st1 hS (asg rfl) rfl fun a w hS => wpList_nil <| blk_n (then_n ?_)
    refine wp_region_list <| st1 hS (bin rfl rfl rfl) rfl fun a w hS => st1 hS (mv rfl) rfl fun a w hS => wpList_nil <| then_n ?_
    exact hJ3170 _ _ ⟨A3165, c3166, zs3169, f3167, (w64 (v3155 + (1 : Int))), hS.to [0, 1] (by kernel_rfl) ⟨rfl, rfl, rfl, rfl, trivial⟩, hV3168, hM⟩
   ·refine wp_exit ?_
    refine then_ex (then_ex (blk_same (then_n ?_)))
    refine wp_seq <| wp_region_list <| st1 hS (mv rfl) rfl fun a w hS => st1 hS (asg rfl) rfl fun a w hS => wpList_nil <| then_n <| wp_ret ?_
    exact s_ret (rs := [2]) hS rfl rfl (hret A3150 c3151 newslice3152 f3153 w (wp_ok hM) hV3154 (hS.st.pick [0, 1] (by kernel_rfl)))

theorem huff_pairs_c {H : Imm} {F : List Frag} {w : World} {R : Ending → World → Prop} {kr : (List T_huff_packet) → Prop} {kp : Value → Prop} (hG : Gl H) (K : Nat) (l_3027 : List T_huff_packet) (p3028 : Frag) (A3029 : Option Addr) (c3030 : Nat) (rw3031 : List (Row 2)) (hr3032 : RelL (R_huff_packet p3028) l_3027 rw3031) (hp3033 : Pl p3028 (Row.v (sz := 2)) A3029 rw3031) (hc3034 : rw3031.length ≤ c3030)
    (hS : St w H [p3028] F) (hm : (huff_pairs.m K l_3027).wp kr kp)
    (hret : ∀ (p3290 : Frag) (A3292 : Option Addr) (c3293 : Nat) (rw3294 : List (Row 2)) (x3295 : (List T_huff_packet)) (f3296 : Frag) (w : World), kr x3295 → (∀ q ∈ p3028, q ∈ p3290) → (Vec 112 (Row.v (sz := 2)) 2 A3292 rw3294 c3293 f3296) → (RelL (R_huff_packet p3290) x3295 rw3294) → St w H [p3290, f3296] F → R (.returned (.slice A3292 rw3294.length c3293)) w)
    (hpan : ∀ v w, kp v → St w H [] F → R (.panicked [⟨v, false, false⟩]) w) :
    Calls Tryd.prog 60 ⟨[.slice A3029 rw3031.length c3030]⟩ w R := by
 refine enter Tryd.func60 rfl Tryd.ntmps60 rfl hS fun a w hS => ?_
 have hM := hm; clear hm
 rw [huff_pairs.m] at hM
 have hs3035 : ∀ q ∈ p3028, q ∈ p3028 := fun _ h => h
 refine wp_seq <| wp_region_list <| st1 hS (asg rfl) rfl fun a w hS => ?_
 obtain ⟨f3036, hV3037, hS⟩ := hS.nilV 112 (Row.v (sz := 2)) 2
 have hr3038 : RelL (R_huff_packet p3028) ([] : List T_huff_packet) ([] : List (Row 2)) := RelL.nil
 refine wpList_nil <| then_n <| wp_seq <| wp_region_list <| st1 hS (asg rfl) rfl fun a w hS => ?_
 obtain ⟨f3039, hV3040, hS⟩ := hS.nilV 112 (Row.v (sz := 2)) 2
 have hr3041 : RelL (R_huff_packet p3028) ([] : List T_huff_packet) ([] : List (Row 2)) := RelL.nil
 refine wpList_nil <| then_n <| wp_seq <| wp_seq <| wp_region_list <| st1 hS (asg rfl) rfl fun a w hS => wpList_nil <| then_n <| wp_block <| s_loopJ (fun k3227 a w => ∃ (p3214 : Frag) (A3219 : Option Addr) (c3220 : Nat) (rw3221 : List (Row 2)) (out3222 : (List T_huff_packet)) (f3223 : Frag) (i3226 : Int), Ss 42 [] [(0, .slice A3029 rw3031.length c3030), (3, .slice A3219 rw3221.length c3220), (4, .int .i64 i3226)] H [p3214, f3223] F a w ∧ (∀ q ∈ p3028, q ∈ p3214) ∧ (RelL (R_huff_packet p3214) l_3027 rw3031) ∧ (Pl p3214 (Row.v (sz := 2)) A3029 rw3031) ∧ (rw3031.length ≤ c3030) ∧ (Vec 112 (Row.v (sz := 2)) 2 A3219 rw3221 c3220 f3223) ∧ (RelL (R_huff_packet p3214) out3222 rw3221) ∧ (huff_pairs.l1 K l_3027 k3227 out3222 i3226).wp kr kp) K ?_ ?_ ?_
 ·exact ⟨p3028, none, 0, ([] : List (Row 2)), ([] : List T_huff_packet), f3039, (0 : Int), hS.to [2, 0] (by kernel_rfl) ⟨rfl, rfl, rfl, trivial⟩, hs3035, hr3032, hp3033, hc3034, hV3040, hr3041, hM⟩
 ·intro a w hI; obtain ⟨_, _, _, _, _, _, _, _, _, _, _, _, _, _, hM⟩ := hI; exact wp_fail hM
 ·intro k3227 a w hI J3289 hJ3289
  obtain ⟨p3214, A3219, c3220, rw3221, out3222, f3223, i3226, hS, hs3215, hr3216, hp3217, hc3218, hV3224, hr3225, hM⟩ := hI
  rw [huff_pairs.l1] at hM
  refine wp_seq <| wp_seq <| wp_region_list <| st1 hS (mv rfl) rfl fun a w hS => st1 hS (bin rfl rfl rfl) rfl fun a w hS => st1 hS (mv rfl) rfl fun a w hS => st1 hS (ovE (v' := .int .i64 (l_3027.length : Int)) (lenV rfl Tryd.runUnderlying110) (by rw [hr3216.len])) rfl fun a w hS => st1 hS (bin rfl rfl rfl) rfl fun a w hS => wpList_nil <| then_n <| s_cond hS rfl hM (fun hb3228 hM => ?_) (fun hb3228 hM => ?_)
  ·refine wp_skip ?_
   refine then_n <| wp_seq <| wp_block ?_
   obtain ⟨hk3230, hM⟩ := wp_chk hM
   obtain ⟨A3231, c3232, hw3235, hp3233, hc3234⟩ := hr3216.get hk3230
   obtain ⟨hk3237, hM⟩ := wp_chk hM
   obtain ⟨A3238, c3239, hw3242, hp3240, hc3241⟩ := hr3216.get hk3237
   obtain ⟨A3243, c3244, hw3247, hp3245, hc3246⟩ := hr3216.get hk3230
   obtain ⟨A3248, c3249, hw3252, hp3250, hc3251⟩ := hr3216.get hk3237
   refine draw_begin (vals := [some (.slice A3219 rw3221.length c3220), some (.slice A3029 rw3031.length c3030), some (.int .i64 i3226), some (slp A3029 (Int.toNat i3226 * 2)), some (slp A3029 (Int.toNat i3226 * 2 + 0)), some (.int .i64 ((rd l_3027 i3226).often_)), some (.slice A3029 rw3031.length c3030), some (.int .i64 i3226), some (.int .i64 (w64 (i3226 + (1 : Int)))), some (slp A3029 (Int.toNat (w64 (i3226 + (1 : Int))) * 2)), some (slp A3029 (Int.toNat (w64 (i3226 + (1 : Int))) * 2 + 0)), some (.int .i64 ((rd l_3027 (w64 (i3226 + (1 : Int)))).often_)), some (.int .i64 (w64 ((rd l_3027 i3226).often_ + (rd l_3027 (w64 (i3226 + (1 : Int)))).often_))), some (.slice A3029 rw3031.length c3030), some (.int .i64 i3226), some (slp A3029 (Int.toNat i3226 * 2)), some (slp A3029 (Int.toNat i3226 * 2 + 1)), some (.slice A3243 ((rd l_3027 i3226).symbols_).length c3244), some (.slice A3029 rw3031.length c3030), some (.int .i64 i3226), some (.int .i64 (w64 (i3226 + (1 : Int)))), some (slp A3029 (Int.toNat (w64 (i3226 + (1 : Int))) * 2)), some (slp A3029 (Int.toNat (w64 (i3226 + (1 : Int))) * 2 + 1)), some (.slice A3248 ((rd l_3027 (w64 (i3226 + (1 : Int)))).symbols_).length c3249), none, none, none, none, none, none]) hS mixed rfl ?_
   intro l w ho hcl hA hst
   refine phq hA hst ho hcl navail nmust 24 [0, 1, 2, 3, 4, 5, 6, 7, 8, 9, 10, 11, 12, 13, 14, 15, 16, 17, 18, 19, 20, 21, 22, 23] rfl rfl rfl rfl rfl (by exact ⟨nR rfl rfl rfl rfl rfl (by exact ovE (mv rfl) rfl), nR rfl rfl rfl rfl rfl (by exact ovE (mv rfl) rfl), nR rfl rfl rfl rfl rfl (by exact ovE (mv rfl) rfl), nR rfl rfl rfl rfl rfl (by exact ovE (ixV rfl rfl Tryd.runUnderlying110 Tryd.sizeOf112 (hp3217.rd (i := 0) rfl) Row.len rfl (hr3216.inb hk3230)) rfl), nR rfl rfl rfl rfl rfl (by exact ovE (fadV rfl (hp3217.rd (i := 0) rfl) Row.len rfl (hr3216.inb hk3230) Tryd.runUnderlying112 rfl Tryd.sizeOf3 rfl) rfl), nR rfl rfl rfl rfl rfl (by exact ovE (ldV 0 rfl (hp3217.rd (i := 0) rfl) Row.len (hr3216.inb hk3230) (by rw [show Row.v (rd rw3031 i3226) = _ from hw3235]; rfl) Tryd.isAgg3) rfl), nR rfl rfl rfl rfl rfl (by exact ovE (mv rfl) rfl), nR rfl rfl rfl rfl rfl (by exact ovE (mv rfl) rfl), nR rfl rfl rfl rfl rfl (by exact ovE (bin rfl rfl rfl) rfl), nR rfl rfl rfl rfl rfl (by exact ovE (ixV rfl rfl Tryd.runUnderlying110 Tryd.sizeOf112 (hp3217.rd (i := 0) rfl) Row.len rfl (hr3216.inb hk3237)) rfl), nR rfl rfl rfl rfl rfl (by exact ovE (fadV rfl (hp3217.rd (i := 0) rfl) Row.len rfl (hr3216.inb hk3237) Tryd.runUnderlying112 rfl Tryd.sizeOf3 rfl) rfl), nR rfl rfl rfl rfl rfl (by exact ovE (ldV 0 rfl (hp3217.rd (i := 0) rfl) Row.len (hr3216.inb hk3237) (by rw [show Row.v (rd rw3031 (w64 (i3226 + (1 : Int)))) = _ from hw3242]; rfl) Tryd.isAgg3) rfl), nR rfl rfl rfl rfl rfl (by exact ovE (bin rfl rfl rfl) rfl), nR rfl rfl rfl rfl rfl (by exact ovE (mv rfl) rfl), nR rfl rfl rfl rfl rfl (by exact ovE (mv rfl) rfl), nR rfl rfl rfl rfl rfl (by exact ovE (ixV rfl rfl Tryd.runUnderlying110 Tryd.sizeOf112 (hp3217.rd (i := 0) rfl) Row.len rfl (hr3216.inb hk3230)) rfl), nR rfl rfl rfl rfl rfl (by exact ovE (fadV rfl (hp3217.rd (i := 0) rfl) Row.len rfl (hr3216.inb hk3230) Tryd.runUnderlying112 rfl Tryd.sizeOf45 rfl) rfl), nR rfl rfl rfl rfl rfl (by exact ovE (ldV 1 rfl (hp3217.rd (i := 0) rfl) Row.len (hr3216.inb hk3230) (by rw [show Row.v (rd rw3031 i3226) = _ from hw3247]; rfl) Tryd.isAgg45) rfl), nR rfl rfl rfl rfl rfl (by exact ovE (mv rfl) rfl), nR rfl rfl rfl rfl rfl (by exact ovE (mv rfl) rfl), nR rfl rfl rfl rfl rfl (by exact ovE (bin rfl rfl rfl) rfl), nR rfl rfl rfl rfl rfl (by exact ovE (ixV rfl rfl Tryd.runUnderlying110 Tryd.sizeOf112 (hp3217.rd (i := 0) rfl) Row.len rfl (hr3216.inb hk3237)) rfl), nR rfl rfl rfl rfl rfl (by exact ovE (fadV rfl (hp3217.rd (i := 0) rfl) Row.len rfl (hr3216.inb hk3237) Tryd.runUnderlying112 rfl Tryd.sizeOf45 rfl) rfl), nR rfl rfl rfl rfl rfl (by exact ovE (ldV 1 rfl (hp3217.rd (i := 0) rfl) Row.len (hr3216.inb hk3237) (by rw [show Row.v (rd rw3031 (w64 (i3226 + (1 : Int)))) = _ from hw3252]; rfl) Tryd.isAgg45) rfl), trivial⟩) fun D l a w ho hcl hav hpre hm hE hk hA hst => ?_
   have hS := (Ss.mk hE hst).env2 (e' := [(29, .slice A3243 ((rd l_3027 i3226).symbols_).length c3244), (35, .slice A3248 ((rd l_3027 (w64 (i3226 + (1 : Int)))).symbols_).length c3249)]) ⟨rfl, rfl, trivial⟩
   refine op_of_nth rfl ?_
   obtain ⟨rw3258, hrw⟩ : ∃ r, r = ([(⟨[.slice A3243 ((rd l_3027 i3226).symbols_).length c3244], by simp, by simp [Value.oneCell']⟩ : Row 1), (⟨[.slice A3248 ((rd l_3027 (w64 (i3226 + (1 : Int)))).symbols_).length c3249], by simp, by simp [Value.oneCell']⟩ : Row 1)] : List (Row 1)) := ⟨_, rfl⟩
   have hr3257 : RelL (R_s_int p3214) ([(rd l_3027 i3226).symbols_, (rd l_3027 (w64 (i3226 + (1 : Int)))).symbols_] : List (List Int)) rw3258 := by rw [hrw]; exact (RelL.cons (show R_s_int p3214 _ _ from ⟨A3243, c3244, rfl, hp3245, hc3246⟩) (RelL.cons (show R_s_int p3214 _ _ from ⟨A3248, c3249, rfl, hp3250, hc3251⟩) RelL.nil))
   refine bsl (g := (Row.v (sz := 1))) rw3258 [.slice A3243 ((rd l_3027 i3226).symbols_).length c3244, .slice A3248 ((rd l_3027 (w64 (i3226 + (1 : Int)))).symbols_).length c3249] hS Tryd.runUnderlying167 Tryd.sizeOf45 X.el45 rfl rfl rfl (by simp [Value.cells]) (by rw [hrw]; rfl) (by rw [hrw]; rfl) rfl rfl rfl fun w A3253 c3254 f3255 hV3256 hS => ?_
   clear hrw
   refine wpList_nil (then_n ?_)
   replace hst := hS.st
   obtain ⟨hcl, hmust, hav2, hA⟩ := dn (vals' := [some (.slice A3219 rw3221.length c3220), some (.slice A3029 rw3031.length c3030), some (.int .i64 i3226), some (slp A3029 (Int.toNat i3226 * 2)), some (slp A3029 (Int.toNat i3226 * 2 + 0)), some (.int .i64 ((rd l_3027 i3226).often_)), some (.slice A3029 rw3031.length c3030), some (.int .i64 i3226), some (.int .i64 (w64 (i3226 + (1 : Int)))), some (slp A3029 (Int.toNat (w64 (i3226 + (1 : Int))) * 2)), some (slp A3029 (Int.toNat (w64 (i3226 + (1 : Int))) * 2 + 0)), some (.int .i64 ((rd l_3027 (w64 (i3226 + (1 : Int)))).often_)), some (.int .i64 (w64 ((rd l_3027 i3226).often_ + (rd l_3027 (w64 (i3226 + (1 : Int)))).often_))), some (.slice A3029 rw3031.length c3030), some (.int .i64 i3226), some (slp A3029 (Int.toNat i3226 * 2)), some (slp A3029 (Int.toNat i3226 * 2 + 1)), some (.slice A3243 ((rd l_3027 i3226).symbols_).length c3244), some (.slice A3029 rw3031.length c3030), some (.int .i64 i3226), some (.int .i64 (w64 (i3226 + (1 : Int)))), some (slp A3029 (Int.toNat (w64 (i3226 + (1 : Int))) * 2)), some (slp A3029 (Int.toNat (w64 (i3226 + (1 : Int))) * 2 + 1)), some (.slice A3248 ((rd l_3027 (w64 (i3226 + (1 : Int)))).symbols_).length c3249), some (.slice A3253 rw3258.length c3254), none, none, none, none, none]) 24 [(17, 24), (23, 24), (16, 17), (22, 23), (15, 16), (21, 22), (13, 15), (14, 15), (18, 21), (20, 21), (19, 20)] hA hcl hav hm hpre hk rfl rfl rfl rfl rfl rfl rfl
   clear hm hav
   refine phq hA hst ho hcl hav2 hmust 25 [0, 1, 2, 3, 4, 5, 6, 7, 8, 9, 10, 11, 12] rfl rfl rfl rfl rfl (by exact ⟨nR rfl rfl rfl rfl rfl (by exact ovE (mv rfl) rfl), nR rfl rfl rfl rfl rfl (by exact ovE (mv rfl) rfl), nR rfl rfl rfl rfl rfl (by exact ovE (mv rfl) rfl), nR rfl rfl rfl rfl rfl (by exact ovE (ixV rfl rfl Tryd.runUnderlying110 Tryd.sizeOf112 (hp3217.rd (i := 1) rfl) Row.len rfl (hr3216.inb hk3230)) rfl), nR rfl rfl rfl rfl rfl (by exact ovE (fadV rfl (hp3217.rd (i := 1) rfl) Row.len rfl (hr3216.inb hk3230) Tryd.runUnderlying112 rfl Tryd.sizeOf3 rfl) rfl), nR rfl rfl rfl rfl rfl (by exact ovE (ldV 0 rfl (hp3217.rd (i := 1) rfl) Row.len (hr3216.inb hk3230) (by rw [show Row.v (rd rw3031 i3226) = _ from hw3235]; rfl) Tryd.isAgg3) rfl), nR rfl rfl rfl rfl rfl (by exact ovE (mv rfl) rfl), nR rfl rfl rfl rfl rfl (by exact ovE (mv rfl) rfl), nR rfl rfl rfl rfl rfl (by exact ovE (bin rfl rfl rfl) rfl), nR rfl rfl rfl rfl rfl (by exact ovE (ixV rfl rfl Tryd.runUnderlying110 Tryd.sizeOf112 (hp3217.rd (i := 1) rfl) Row.len rfl (hr3216.inb hk3237)) rfl), nR rfl rfl rfl rfl rfl (by exact ovE (fadV rfl (hp3217.rd (i := 1) rfl) Row.len rfl (hr3216.inb hk3237) Tryd.runUnderlying112 rfl Tryd.sizeOf3 rfl) rfl), nR rfl rfl rfl rfl rfl (by exact ovE (ldV 0 rfl (hp3217.rd (i := 1) rfl) Row.len (hr3216.inb hk3237) (by rw [show Row.v (rd rw3031 (w64 (i3226 + (1 : Int)))) = _ from hw3242]; rfl) Tryd.isAgg3) rfl), nR rfl rfl rfl rfl rfl (by exact ovE (bin rfl rfl rfl) rfl), trivial⟩) fun D l a w ho hcl hav hpre hm hE hk hA hst => ?_
   have hS := (Ss.mk hE hst).env2 (e' := [(36, .slice A3253 rw3258.length c3254)]) ⟨rfl, trivial⟩
   refine op_of_nth rfl ?_
   replace hS := hS.front [0, 1, 2] (by kernel_rfl)
   obtain ⟨p3259, hs3260, hs3261, hS⟩ := hS.poolF
   have hc3263 := hV3256.cap Row.len rfl
   have hp3262 := hV3256.pl.mono hs3260
   replace hp3217 := hp3217.mono hs3261
   replace hp3245 := hp3245.mono hs3261
   replace hp3250 := hp3250.mono hs3261
   replace hr3216 := RelL.mono (fun _ _ h => R_huff_packet.mono hs3261 h) hr3216
   replace hr3225 := RelL.mono (fun _ _ h => R_huff_packet.mono hs3261 h) hr3225
   replace hr3257 := RelL.mono (fun _ _ h => R_s_int.mono hs3261 h) hr3257
   replace hs3215 := fun q h => hs3261 q (hs3215 q h)
   refine s_call hS rfl Tryd.call85 (slices_Concat___int_int__c hG K ([(rd l_3027 i3226).symbols_, (rd l_3027 (w64 (i3226 + (1 : Int)))).symbols_] : List (List Int)) p3259 A3253 c3254 rw3258 hr3257 hp3262 hc3263 (hS.st.part 1 [0, 1] (by kernel_rfl)) (wp_bind hM) (fun A3264 c3265 x3266 f3267 w hM h3268 hst => s_back hS.ev hst.appF rfl fun hS => ?_) (fun v w hk hst => s_pan (then_pan (blk_pan (then_pan (then_pan (blk_pan (then_pan (⟨hS.ev.defs, hpan _ _ hk hst.appF.frame⟩)))))))))
   replace hS : Ss _ _ _ H [p3259, f3267, f3223] F _ _ := hS
   refine wpList_nil (then_n ?_)
   replace hst := hS.st
   obtain ⟨hcl, hmust, hav2, hA⟩ := dn (vals' := [some (.slice A3219 rw3221.length c3220), some (.slice A3029 rw3031.length c3030), some (.int .i64 i3226), some (slp A3029 (Int.toNat i3226 * 2)), some (slp A3029 (Int.toNat i3226 * 2 + 0)), some (.int .i64 ((rd l_3027 i3226).often_)), some (.slice A3029 rw3031.length c3030), some (.int .i64 i3226), some (.int .i64 (w64 (i3226 + (1 : Int)))), some (slp A3029 (Int.toNat (w64 (i3226 + (1 : Int))) * 2)), some (slp A3029 (Int.toNat (w64 (i3226 + (1 : Int))) * 2 + 0)), some (.int .i64 ((rd l_3027 (w64 (i3226 + (1 : Int)))).often_)), some (.int .i64 (w64 ((rd l_3027 i3226).often_ + (rd l_3027 (w64 (i3226 + (1 : Int)))).often_))), some (.slice A3029 rw3031.length c3030), some (.int .i64 i3226), some (slp A3029 (Int.toNat i3226 * 2)), some (slp A3029 (Int.toNat i3226 * 2 + 1)), some (.slice A3243 ((rd l_3027 i3226).symbols_).length c3244), some (.slice A3029 rw3031.length c3030), some (.int .i64 i3226), some (.int .i64 (w64 (i3226 + (1 : Int)))), some (slp A3029 (Int.toNat (w64 (i3226 + (1 : Int))) * 2)), some (slp A3029 (Int.toNat (w64 (i3226 + (1 : Int))) * 2 + 1)), some (.slice A3248 ((rd l_3027 (w64 (i3226 + (1 : Int)))).symbols_).length c3249), some (.slice A3253 rw3258.length c3254), some (.slice A3264 x3266.length c3265), some (.agg ⟨[.int .i64 (w64 ((rd l_3027 i3226).often_ + (rd l_3027 (w64 (i3226 + (1 : Int)))).often_)), .slice A3264 x3266.length c3265]⟩), none, none, none]) 25 [(24, 25), (17, 24), (23, 24), (16, 17), (22, 23), (15, 16), (21, 22), (13, 15), (14, 15), (18, 21), (20, 21), (19, 20)] hA hcl hav hm hpre hk rfl rfl rfl rfl rfl rfl rfl
   clear hm hav
   refine phq hA hst ho hcl hav2 hmust 27 [0, 1, 2, 3, 4, 5, 6, 7, 8, 9, 10, 11, 12, 26] rfl rfl rfl rfl rfl (by exact ⟨nR rfl rfl rfl rfl rfl (by exact ovE (mv rfl) rfl), nR rfl rfl rfl rfl rfl (by exact ovE (mv rfl) rfl), nR rfl rfl rfl rfl rfl (by exact ovE (mv rfl) rfl), nR rfl rfl rfl rfl rfl (by exact ovE (ixV rfl rfl Tryd.runUnderlying110 Tryd.sizeOf112 (hp3217.rd (i := 0) rfl) Row.len rfl (hr3216.inb hk3230)) rfl), nR rfl rfl rfl rfl rfl (by exact ovE (fadV rfl (hp3217.rd (i := 0) rfl) Row.len rfl (hr3216.inb hk3230) Tryd.runUnderlying112 rfl Tryd.sizeOf3 rfl) rfl), nR rfl rfl rfl rfl rfl (by exact ovE (ldV 0 rfl (hp3217.rd (i := 0) rfl) Row.len (hr3216.inb hk3230) (by rw [show Row.v (rd rw3031 i3226) = _ from hw3235]; rfl) Tryd.isAgg3) rfl), nR rfl rfl rfl rfl rfl (by exact ovE (mv rfl) rfl), nR rfl rfl rfl rfl rfl (by exact ovE (mv rfl) rfl), nR rfl rfl rfl rfl rfl (by exact ovE (bin rfl rfl rfl) rfl), nR rfl rfl rfl rfl rfl (by exact ovE (ixV rfl rfl Tryd.runUnderlying110 Tryd.sizeOf112 (hp3217.rd (i := 0) rfl) Row.len rfl (hr3216.inb hk3237)) rfl), nR rfl rfl rfl rfl rfl (by exact ovE (fadV rfl (hp3217.rd (i := 0) rfl) Row.len rfl (hr3216.inb hk3237) Tryd.runUnderlying112 rfl Tryd.sizeOf3 rfl) rfl), nR rfl rfl rfl rfl rfl (by exact ovE (ldV 0 rfl (hp3217.rd (i := 0) rfl) Row.len (hr3216.inb hk3237) (by rw [show Row.v (rd rw3031 (w64 (i3226 + (1 : Int)))) = _ from hw3242]; rfl) Tryd.isAgg3) rfl), nR rfl rfl rfl rfl rfl (by exact ovE (bin rfl rfl rfl) rfl), nR rfl rfl rfl rfl rfl (by exact ovE (bld ([.int .i64 (w64 ((rd l_3027 i3226).often_ + (rd l_3027 (w64 (i3226 + (1 : Int)))).often_)), .slice A3264 x3266.length c3265]) [(0, 1), (1, 1)] Tryd.zeroValue112 Tryd.runUnderlying112 (by intro w; simp [Tryd.sizeOf3, Tryd.sizeOf45]) rfl rfl) rfl), trivial⟩) fun D l a w ho hcl hav hpre hm hE hk hA hst => ?_
   have hS := (Ss.mk hE hst).env2 (e' := [(38, .agg ⟨[.int .i64 (w64 ((rd l_3027 i3226).often_ + (rd l_3027 (w64 (i3226 + (1 : Int)))).often_)), .slice A3264 x3266.length c3265]⟩)]) ⟨rfl, trivial⟩
   refine op_of_nth rfl ?_
   replace hS := hS.front [1, 0, 2] (by kernel_rfl)
   obtain ⟨p3269, hs3270, hs3271, hS⟩ := hS.poolF
   have hc3273 := h3268.cap (fun _ => rfl) rfl
   have hp3272 := h3268.pl.mono hs3270
   replace hp3217 := hp3217.mono hs3271
   replace hp3245 := hp3245.mono hs3271
   replace hp3250 := hp3250.mono hs3271
   replace hp3262 := hp3262.mono hs3271
   replace hr3216 := RelL.mono (fun _ _ h => R_huff_packet.mono hs3271 h) hr3216
   replace hr3225 := RelL.mono (fun _ _ h => R_huff_packet.mono hs3271 h) hr3225
   replace hr3257 := RelL.mono (fun _ _ h => R_s_int.mono hs3271 h) hr3257
   replace hs3215 := fun q h => hs3271 q (hs3215 q h)
   obtain ⟨rw3279, hrw⟩ : ∃ r, r = ([(⟨[.int .i64 (w64 ((rd l_3027 i3226).often_ + (rd l_3027 (w64 (i3226 + (1 : Int)))).often_)), .slice A3264 x3266.length c3265], by simp, by simp [Value.oneCell']⟩ : Row 2)] : List (Row 2)) := ⟨_, rfl⟩
   have hr3278 : RelL (R_huff_packet p3269) ([(T_huff_packet.mk (w64 ((rd l_3027 i3226).often_ + (rd l_3027 (w64 (i3226 + (1 : Int)))).often_)) x3266)] : List T_huff_packet) rw3279 := by rw [hrw]; exact (RelL.cons (show R_huff_packet p3269 _ _ from ⟨A3264, c3265, rfl, hp3272, hc3273⟩) RelL.nil)
   refine bsl (g := (Row.v (sz := 2))) rw3279 [.agg ⟨[.int .i64 (w64 ((rd l_3027 i3226).often_ + (rd l_3027 (w64 (i3226 + (1 : Int)))).often_)), .slice A3264 x3266.length c3265]⟩] hS Tryd.runUnderlying110 Tryd.sizeOf112 X.el112 rfl rfl rfl (by simp [Value.cells]) (by rw [hrw]; rfl) (by rw [hrw]; rfl) rfl rfl rfl fun w A3274 c3275 f3276 hV3277 hS => ?_
   clear hrw
   refine wpList_nil (then_n ?_)
   replace hst := hS.st
   obtain ⟨hcl, hmust, hav2, hA⟩ := dn (vals' := [some (.slice A3219 rw3221.length c3220), some (.slice A3029 rw3031.length c3030), some (.int .i64 i3226), some (slp A3029 (Int.toNat i3226 * 2)), some (slp A3029 (Int.toNat i3226 * 2 + 0)), some (.int .i64 ((rd l_3027 i3226).often_)), some (.slice A3029 rw3031.length c3030), some (.int .i64 i3226), some (.int .i64 (w64 (i3226 + (1 : Int)))), some (slp A3029 (Int.toNat (w64 (i3226 + (1 : Int))) * 2)), some (slp A3029 (Int.toNat (w64 (i3226 + (1 : Int))) * 2 + 0)), some (.int .i64 ((rd l_3027 (w64 (i3226 + (1 : Int)))).often_)), some (.int .i64 (w64 ((rd l_3027 i3226).often_ + (rd l_3027 (w64 (i3226 + (1 : Int)))).often_))), some (.slice A3029 rw3031.length c3030), some (.int .i64 i3226), some (slp A3029 (Int.toNat i3226 * 2)), some (slp A3029 (Int.toNat i3226 * 2 + 1)), some (.slice A3243 ((rd l_3027 i3226).symbols_).length c3244), some (.slice A3029 rw3031.length c3030), some (.int .i64 i3226), some (.int .i64 (w64 (i3226 + (1 : Int)))), some (slp A3029 (Int.toNat (w64 (i3226 + (1 : Int))) * 2)), some (slp A3029 (Int.toNat (w64 (i3226 + (1 : Int))) * 2 + 1)), some (.slice A3248 ((rd l_3027 (w64 (i3226 + (1 : Int)))).symbols_).length c3249), some (.slice A3253 rw3258.length c3254), some (.slice A3264 x3266.length c3265), some (.agg ⟨[.int .i64 (w64 ((rd l_3027 i3226).often_ + (rd l_3027 (w64 (i3226 + (1 : Int)))).often_)), .slice A3264 x3266.length c3265]⟩), some (.slice A3274 rw3279.length c3275), none, none]) 27 [(26, 27), (12, 26), (25, 26), (5, 12), (11, 12), (24, 25), (4, 5), (10, 11), (17, 24), (23, 24), (3, 4), (9, 10), (16, 17), (22, 23), (1, 3), (2, 3), (6, 9), (8, 9), (15, 16), (21, 22), (7, 8), (13, 15), (14, 15), (18, 21), (20, 21), (19, 20)] hA hcl hav hm hpre hk rfl rfl rfl rfl rfl rfl rfl
   clear hm hav
   refine phq hA hst ho hcl hav2 hmust 28 [0] rfl rfl rfl rfl rfl (by exact ⟨nR rfl rfl rfl rfl rfl (by exact ovE (mv rfl) rfl), trivial⟩) fun D l a w ho hcl hav hpre hm hE hk hA hst => ?_
   have hS := (Ss.mk hE hst).env2 (e' := [(12, .slice A3219 rw3221.length c3220), (39, .slice A3274 rw3279.length c3275)]) ⟨rfl, rfl, trivial⟩
   refine op_of_nth rfl ?_
   obtain ⟨hk3280, hM⟩ := wp_chk hM
   refine apV (ys := rw3279) 2 hS rfl rfl hV3224 rfl (hV3277.rd (i := 0) rfl) Tryd.runUnderlying110 Tryd.runUnderlying110 X.el112 Row.len rfl one_row (hr3225.room hr3278 hk3280) rfl fun rw3285 w A3281 c3282 f3283 hz hV3284 hS => ?_
   obtain ⟨zs3286, hzm⟩ := nameE (out3222 ++ ([(T_huff_packet.mk (w64 ((rd l_3027 i3226).often_ + (rd l_3027 (w64 (i3226 + (1 : Int)))).often_)) x3266)] : List T_huff_packet))
   replace hM := lt_to hzm hM
   have hr3287 := RelL.append hr3225 hr3278
   rw [← hz, ← hzm] at hr3287; clear hz hzm
   refine wpList_nil (then_n ?_)
   replace hst := hS.st
   obtain ⟨hcl, hmust, hav2, hA⟩ := dn (vals' := [some (.slice A3219 rw3221.length c3220), some (.slice A3029 rw3031.length c3030), some (.int .i64 i3226), some (slp A3029 (Int.toNat i3226 * 2)), some (slp A3029 (Int.toNat i3226 * 2 + 0)), some (.int .i64 ((rd l_3027 i3226).often_)), some (.slice A3029 rw3031.length c3030), some (.int .i64 i3226), some (.int .i64 (w64 (i3226 + (1 : Int)))), some (slp A3029 (Int.toNat (w64 (i3226 + (1 : Int))) * 2)), some (slp A3029 (Int.toNat (w64 (i3226 + (1 : Int))) * 2 + 0)), some (.int .i64 ((rd l_3027 (w64 (i3226 + (1 : Int)))).often_)), some (.int .i64 (w64 ((rd l_3027 i3226).often_ + (rd l_3027 (w64 (i3226 + (1 : Int)))).often_))), some (.slice A3029 rw3031.length c3030), some (.int .i64 i3226), some (slp A3029 (Int.toNat i3226 * 2)), some (slp A3029 (Int.toNat i3226 * 2 + 1)), some (.slice A3243 ((rd l_3027 i3226).symbols_).length c3244), some (.slice A3029 rw3031.length c3030), some (.int .i64 i3226), some (.int .i64 (w64 (i3226 + (1 : Int)))), some (slp A3029 (Int.toNat (w64 (i3226 + (1 : Int))) * 2)), some (slp A3029 (Int.toNat (w64 (i3226 + (1 : Int))) * 2 + 1)), some (.slice A3248 ((rd l_3027 (w64 (i3226 + (1 : Int)))).symbols_).length c3249), some (.slice A3253 rw3258.length c3254), some (.slice A3264 x3266.length c3265), some (.agg ⟨[.int .i64 (w64 ((rd l_3027 i3226).often_ + (rd l_3027 (w64 (i3226 + (1 : Int)))).often_)), .slice A3264 x3266.length c3265]⟩), some (.slice A3274 rw3279.length c3275), some (.slice A3281 rw3285.length c3282), some (.slice A3281 rw3285.length c3282)]) 28 [(0, 28), (25, 28), (27, 28), (24, 25), (26, 27), (17, 24), (23, 24), (12, 26), (16, 17), (22, 23), (5, 12), (11, 12), (15, 16), (21, 22), (4, 5), (10, 11), (13, 15), (14, 15), (18, 21), (20, 21), (3, 4), (9, 10), (19, 20), (1, 3), (2, 3), (6, 9), (8, 9), (7, 8)] hA hcl hav hm hpre hk rfl rfl rfl rfl rfl rfl rfl
   clear hm hav
   refine phqE hA hst ho hcl hmust [29] rfl rfl rfl (by exact ⟨nR rfl rfl rfl rfl rfl (by exact ovE (asg rfl) rfl), trivial⟩) fun a w hS => ?_
   replace hS := hS.env2 (e' := [(0, .slice A3029 rw3031.length c3030), (3, .slice A3281 rw3285.length c3282), (4, .int .i64 i3226)]) ⟨rfl, rfl, rfl, trivial⟩
   refine blk_n (then_n ?_)
   refine wp_region_list <| st1 hS (mv rfl) rfl fun a w hS => st1 hS (bin rfl rfl rfl) rfl fun a w hS => st1x (v := Value.int .i64) (x0 := (w64 (i3226 + (2 : Int)))) hS (asg rfl) rfl fun i3288 a w hz hS => ?_
   have hM := lt_to hz hM; clear hz
   refine wpList_nil <| then_n ?_
   exact hJ3289 _ _ ⟨p3269, A3281, c3282, rw3285, zs3286, f3283, i3288, hS.to [1, 2] (by kernel_rfl) ⟨rfl, rfl, rfl, trivial⟩, hs3215, hr3216, hp3217, hc3218, hV3284, hr3287, hM⟩
  ·refine wp_exit ?_
   refine then_ex (then_ex (blk_same (then_n ?_)))
   refine wp_seq <| wp_region_list <| st1 hS (mv rfl) rfl fun a w hS => st1 hS (asg rfl) rfl fun a w hS => wpList_nil <| then_n <| wp_ret ?_
   exact s_ret (rs := [2]) hS rfl rfl (hret p3214 A3219 c3220 rw3221 out3222 f3223 w (wp_ok hM) hs3215 hV3224 hr3225 (hS.st.pick [0, 1] (by kernel_rfl)))

def R_s_huff_packet (p : Frag) (x : (List T_huff_packet)) (vs : List Value) : Prop :=
  ∃ (A0 : Option Addr) (c0 : Nat) (r0 : List (Row 2)), vs = [.slice A0 r0.length c0] ∧ RelL (R_huff_packet p) x r0 ∧ Pl p (Row.v (sz := 2)) A0 r0 ∧ r0.length ≤ c0
theorem R_s_huff_packet.mono {p p' : Frag} (hs : ∀ q ∈ p, q ∈ p') {x : (List T_huff_packet)} {vs : List Value} (h : R_s_huff_packet p x vs) : R_s_huff_packet p' x vs := by
  obtain ⟨A0, c0, r0, h0, h1, h2, h3⟩ := h
  exact ⟨A0, c0, r0, h0, RelL.mono (fun _ _ h => R_huff_packet.mono hs h) h1, h2.mono hs, h3⟩

theorem slices_Grow___huff_packet_huff_packet__8ef0_c {H : Imm} {F : List Frag} {w : World} {R : Ending → World → Prop} {kr : Unit → Prop} {kp : Value → Prop} (hG : Gl H) (K : Nat) (n_3372 : Int)
    (hS : St w H [] F) (hm : (slices_Grow___huff_packet_huff_packet__8ef0.m K n_3372).wp kr kp)
    (hret : ∀ (p3391 : Frag) (A3392 : Option Addr) (c3393 : Nat) (f3394 : Frag) (w : World), kr () → (Vec 112 (Row.v (sz := 2)) 2 A3392 ([] : List (Row 2)) c3393 f3394) → (RelL (R_huff_packet p3391) ([] : List T_huff_packet) ([] : List (Row 2))) → St w H [p3391, f3394] F → R (.returned (.slice A3392 ([] : List (Row 2)).length c3393)) w)
    (hpan : ∀ v w, kp v → St w H [] F → R (.panicked [⟨v, false, false⟩]) w) :
    Calls Tryd.prog 101 ⟨[.slice none 0 0, .int .i64 n_3372]⟩ w R := by
 refine enter Tryd.func101 rfl Tryd.ntmps101 rfl hS fun a w hS => ?_
 have hM := hm; clear hm
 rw [slices_Grow___huff_packet_huff_packet__8ef0.m] at hM
 refine wp_seq <| wp_region_list <| st1 hS (asg rfl) rfl fun a w hS => ?_
 obtain ⟨p3375, hS⟩ := hS.pool0
 obtain ⟨f3373, hV3374, hS⟩ := hS.nilV 112 (Row.v (sz := 2)) 2
 have hr3376 : RelL (R_huff_packet p3375) ([] : List T_huff_packet) ([] : List (Row 2)) := RelL.nil
 refine wpList_nil <| then_n <| wp_seq <| wp_seq <| wp_region_list <| st1 hS (mv rfl) rfl fun a w hS => st1 hS (bin rfl rfl rfl) rfl fun a w hS => wpList_nil <| then_n <| s_cond hS rfl hM (fun hb3377 hM => ?_) (fun hb3377 hM => ?_)
 ·refine wp_region_list ?_
  refine st1 hS (mkI rfl Tryd.runUnderlying9 rfl) rfl fun a w hS => s_panic hS rfl <| then_pan ?_
  exact ⟨hS.ev.defs, hpan _ _ (wp_pan hM) hS.st.frame⟩
 ·refine wp_skip ?_
  refine then_n <| wp_seq <| wp_seq <| wp_region_list <| st1 hS (mv rfl) rfl fun a w hS => st1 hS (mv rfl) rfl fun a w hS => st1 hS (capN rfl Tryd.runUnderlying110) rfl fun a w hS => st1 hS (mv rfl) rfl fun a w hS => st1 hS (lenV rfl Tryd.runUnderlying110) rfl fun a w hS => st1 hS (bin rfl rfl rfl) rfl fun a w hS => st1 hS (bin rfl rfl rfl) rfl fun a w hS => st1x (v := Value.int .i64) (x0 := (w64 (n_3372 - (w64 ((0 : Int) - (0 : Int)))))) hS (asg rfl) rfl fun n_3378 a w hz hS => ?_
  have hM := lt_to hz hM; clear hz
  refine wpList_nil <| then_n <| wp_seq <| wp_region_list <| st1 hS (mv rfl) rfl fun a w hS => st1 hS (bin rfl rfl rfl) rfl fun a w hS => wpList_nil <| then_n <| s_cond hS rfl hM (fun hb3379 hM => ?_) (fun hb3379 hM => ?_)
  ·refine wp_region_list ?_
   refine st1 hS (mv rfl) rfl fun a w hS => st1 hS (mv rfl) rfl fun a w hS => st1 hS (capN rfl Tryd.runUnderlying110) rfl fun a w hS => st1 hS (slN rfl Tryd.runUnderlying110 Tryd.sizeOf112 (hiS rfl)) rfl fun a w hS => st1 hS (mv rfl) rfl fun a w hS => ?_
   obtain ⟨hk3380, hM⟩ := wp_chk hM
   refine apG (g := (Row.v (sz := 2))) hS rfl rfl Tryd.runUnderlying110 Tryd.runUnderlying3 X.el112 rfl rfl hk3380 rfl fun w A3381 c3382 f3383 hV3384 hc3385 hA3386 hS => ?_
   have hr3387 : RelL (R_huff_packet p3375) ([] : List T_huff_packet) ([] : List (Row 2)) := RelL.nil
   refine st1 hS (mv rfl) rfl fun a w hS => st1 hS (lenV rfl Tryd.runUnderlying110) rfl fun a w hS => st1 hS (slG rfl Tryd.runUnderlying110 Tryd.sizeOf112 (fun _ => hiS rfl) hc3385 hA3386) rfl fun a w hS => st1 hS (asg rfl) rfl fun a w hS => wpList_nil <| then_n <| wp_seq <| wp_region_list <| st1 hS (mv rfl) rfl fun a w hS => st1 hS (asg rfl) rfl fun a w hS => wpList_nil <| then_n <| wp_ret ?_
   exact s_ret (rs := [4]) hS rfl rfl (hret p3375 A3381 c3382 f3383 w (wp_ok hM) hV3384 hr3387 (hS.st.pick [2, 0] (by kernel_rfl)))
  ·refine wp_skip ?_
   refine then_n <| wp_seq <| wp_region_list <| st1 hS (mv rfl) rfl fun a w hS => st1 hS (asg rfl) rfl fun a w hS => ?_
   obtain ⟨f3388, hV3389, hS⟩ := hS.nilV 112 (Row.v (sz := 2)) 2
   have hr3390 : RelL (R_huff_packet p3375) ([] : List T_huff_packet) ([] : List (Row 2)) := RelL.nil
   refine wpList_nil <| then_n <| wp_ret ?_
   exact s_ret (rs := [4]) hS rfl rfl (hret p3375 none (0) f3388 w (wp_ok hM) hV3389 hr3390 (hS.st.pick [2, 0] (by kernel_rfl)))

theorem slices_Concat___huff_packet_huff_packet__c {H : Imm} {F : List Frag} {w : World} {R : Ending → World → Prop} {kr : (List T_huff_packet) → Prop} {kp : Value → Prop} (hG : Gl H) (K : Nat) (slices3343 : List (List T_huff_packet)) (p3344 : Frag) (A3345 : Option Addr) (c3346 : Nat) (rw3347 : List (Row 1)) (hr3348 : RelL (R_s_huff_packet p3344) slices3343 rw3347) (hp3349 : Pl p3344 (Row.v (sz := 1)) A3345 rw3347) (hc3350 : rw3347.length ≤ c3346)
    (hS : St w H [p3344] F) (hm : (slices_Concat___huff_packet_huff_packet_.m K slices3343).wp kr kp)
    (hret : ∀ (p3460 : Frag) (A3462 : Option Addr) (c3463 : Nat) (rw3464 : List (Row 2)) (x3465 : (List T_huff_packet)) (f3466 : Frag) (w : World), kr x3465 → (∀ q ∈ p3344, q ∈ p3460) → (Vec 112 (Row.v (sz := 2)) 2 A3462 rw3464 c3463 f3466) → (RelL (R_huff_packet p3460) x3465 rw3464) → St w H [p3460, f3466] F → R (.returned (.slice A3462 rw3464.length c3463)) w)
    (hpan : ∀ v w, kp v → St w H [] F → R (.panicked [⟨v, false, false⟩]) w) :
    Calls Tryd.prog 83 ⟨[.slice A3345 rw3347.length c3346]⟩ w R := by
 refine enter Tryd.func83 rfl Tryd.ntmps83 rfl hS fun a w hS => ?_
 have hM := hm; clear hm
 rw [slices_Concat___huff_packet_huff_packet_.m] at hM
 have hs3351 : ∀ q ∈ p3344, q ∈ p3344 := fun _ h => h
 refine wp_seq <| wp_region_list <| st1 hS (asg rfl) rfl fun a w hS => ?_
 obtain ⟨f3352, hV3353, hS⟩ := hS.nilV 112 (Row.v (sz := 2)) 2
 have hr3354 : RelL (R_huff_packet p3344) ([] : List T_huff_packet) ([] : List (Row 2)) := RelL.nil
 refine wpList_nil <| then_n <| wp_seq <| wp_region_list <| st1 hS (asg rfl) rfl fun a w hS => wpList_nil <| then_n <| seq_joinJ (fun a w => ∃ (size3370 : Int), Ss 36 [] [(0, .slice A3345 rw3347.length c3346), (3, .int .i64 size3370)] H [p3344] F a w ∧ (slices_Concat___huff_packet_huff_packet_.j2 K slices3343 size3370).wp kr kp) (fun J3371 hJ3371 => ?_) ?_
 ·refine wp_seq ?_
  refine wp_region_list <| st1 hS (mv rfl) rfl fun a w hS => st1 hS (ovE (v' := .int .i64 (slices3343.length : Int)) (lenV rfl Tryd.runUnderlying165) (by rw [hr3348.len])) rfl fun a w hS => st1 hS (mv rfl) rfl fun a w hS => wpList_nil <| then_n <| wp_block <| s_loopJ (fun k3357 a w => ∃ (size3355 : Int) (v3356 : Int), Ss 36 [] [(0, .slice A3345 rw3347.length c3346), (3, .int .i64 size3355), (9, .slice A3345 rw3347.length c3346), (10, .int .i64 (slices3343.length : Int)), (11, .int .i64 v3356)] H [p3344] F a w ∧ (slices_Concat___huff_packet_huff_packet_.l1 K slices3343 k3357 size3355 v3356).wp kr kp) K ?_ ?_ ?_
  ·exact ⟨(0 : Int), (0 : Int), hS.to [1] (by kernel_rfl) ⟨rfl, rfl, rfl, rfl, rfl, trivial⟩, hM⟩
  ·intro a w hI; obtain ⟨_, _, _, hM⟩ := hI; exact wp_fail hM
  ·intro k3357 a w hI J3369 hJ3369
   obtain ⟨size3355, v3356, hS, hM⟩ := hI
   rw [slices_Concat___huff_packet_huff_packet_.l1] at hM
   refine wp_seq <| wp_region_list <| st1 hS (bin rfl rfl rfl) rfl fun a w hS => wpList_nil <| then_n <| wp_seq <| s_cond hS rfl hM (fun hb3358 hM => ?_) (fun hb3358 hM => ?_)
   ·refine wp_skip ?_
    refine then_n <| wp_seq <| wp_block <| wp_seq <| wp_region_list ?_
    obtain ⟨hk3359, hM⟩ := wp_chk hM
    refine st1 hS (ixV rfl rfl Tryd.runUnderlying165 Tryd.sizeOf110 (hp3349.rd (i := 0) rfl) Row.len rfl (hr3348.inb hk3359)) rfl fun a w hS => ?_
    obtain ⟨A3360, c3361, rw3364, hw3366, hr3365, hp3362, hc3363⟩ := hr3348.get hk3359
    refine st1 hS (ldV0 rfl (hp3349.rd (i := 0) rfl) Row.len (hr3348.inb hk3359) (by rw [show Row.v (rd rw3347 v3356) = _ from hw3366]; rfl) Tryd.isAgg110) rfl fun a w hS => st1 hS (asg rfl) rfl fun a w hS => wpList_nil <| then_n <| wp_seq <| wp_region_list <| st1 hS (mv rfl) rfl fun a w hS => st1 hS (mv rfl) rfl fun a w hS => st1 hS (ovE (v' := .int .i64 ((rd slices3343 v3356).length : Int)) (lenV rfl Tryd.runUnderlying110) (by rw [hr3365.len])) rfl fun a w hS => st1 hS (bin rfl rfl rfl) rfl fun a w hS => st1x (v := Value.int .i64) (x0 := (w64 (size3355 + ((rd slices3343 v3356).length : Int)))) hS (asg rfl) rfl fun size3367 a w hz hS => ?_
    have hM := lt_to hz hM; clear hz
    refine wpList_nil <| then_n <| wp_seq <| wp_region_list <| st1 hS (mv rfl) rfl fun a w hS => st1 hS (bin rfl rfl rfl) rfl fun a w hS => wpList_nil <| then_n <| s_cond hS rfl hM (fun hb3368 hM => ?_) (fun hb3368 hM => ?_)
    ·refine wp_region_list ?_
     refine st1 hS (mkI rfl Tryd.runUnderlying9 rfl) rfl fun a w hS => s_panic hS rfl <| blk_pan (then_pan (then_pan (blk_pan (then_pan ?_))))
     exact ⟨hS.ev.defs, hpan _ _ (wp_pan hM) hS.st.frame⟩
    ·refine wp_skip ?_
     refine blk_n (then_n ?_)
     refine wp_region_list <| st1 hS (bin rfl rfl rfl) rfl fun a w hS => st1 hS (mv rfl) rfl fun a w hS => wpList_nil <| then_n ?_
     exact hJ3369 _ _ ⟨size3367, (w64 (v3356 + (1 : Int))), hS.to [0] (by kernel_rfl) ⟨rfl, rfl, rfl, rfl, rfl, trivial⟩, hM⟩
   ·refine wp_exit ?_
    refine then_ex (then_ex (blk_same (then_n ?_)))
    exact hJ3371 _ _ ⟨size3355, hS.to [0] (by kernel_rfl) ⟨rfl, rfl, trivial⟩, hM⟩
 ·intro a w hI
  obtain ⟨size3370, hS, hM⟩ := hI
  rw [slices_Concat___huff_packet_huff_packet_.j2] at hM
  refine wp_seq <| wp_region_list <| st1 hS (mv rfl) rfl fun a w hS => s_call hS rfl Tryd.call101 (slices_Grow___huff_packet_huff_packet__8ef0_c hG K size3370 (hS.st.part 0 [0] (by kernel_rfl)) (wp_bind hM) (fun p3397 A3398 c3399 f3400 w hM h3401 h3402 hst => s_back hS.ev hst.appF rfl fun hS => ?_) (fun v w hk hst => s_pan (then_pan (⟨hS.ev.defs, hpan _ _ hk hst.appF.frame⟩))))
  replace hS : Ss _ _ _ H [p3397, f3400, p3344] F _ _ := hS
  replace hS := hS.front [0, 2, 1] (by kernel_rfl)
  obtain ⟨p3403, hs3404, hs3405, hS⟩ := hS.poolF
  replace h3402 := RelL.mono (fun _ _ h => R_huff_packet.mono hs3404 h) h3402
  replace hp3349 := hp3349.mono hs3405
  replace hr3348 := RelL.mono (fun _ _ h => R_s_huff_packet.mono hs3405 h) hr3348
  replace hs3351 := fun q h => hs3405 q (hs3351 q h)
  refine st1 hS (asg rfl) rfl fun a w hS => wpList_nil <| then_n <| wp_seq <| wp_seq <| wp_region_list <| st1 hS (mv rfl) rfl fun a w hS => st1 hS (ovE (v' := .int .i64 (slices3343.length : Int)) (lenV rfl Tryd.runUnderlying165) (by rw [hr3348.len])) rfl fun a w hS => st1 hS (mv rfl) rfl fun a w hS => wpList_nil <| then_n <| wp_block <| s_loopJ (fun k3441 a w => ∃ (A3433 : Option Addr) (c3434 : Nat) (rw3435 : List (Row 2)) (newslice3436 : (List T_huff_packet)) (f3437 : Frag) (v3440 : Int), Ss 36 [] [(6, .slice A3433 rw3435.length c3434), (25, .slice A3345 rw3347.length c3346), (26, .int .i64 (slices3343.length : Int)), (27, .int .i64 v3440)] H [p3403, f3437] F a w ∧ (Vec 112 (Row.v (sz := 2)) 2 A3433 rw3435 c3434 f3437) ∧ (RelL (R_huff_packet p3403) newslice3436 rw3435) ∧ (slices_Concat___huff_packet_huff_packet_.l3 K slices3343 k3441 newslice3436 v3440).wp kr kp) K ?_ ?_ ?_
  ·exact ⟨A3398, c3399, ([] : List (Row 2)), ([] : List T_huff_packet), f3400, (0 : Int), hS.to [0, 1] (by kernel_rfl) ⟨rfl, rfl, rfl, rfl, trivial⟩, h3401, h3402, hM⟩
  ·intro a w hI; obtain ⟨_, _, _, _, _, _, _, _, _, hM⟩ := hI; exact wp_fail hM
  ·intro k3441 a w hI J3459 hJ3459
   obtain ⟨A3433, c3434, rw3435, newslice3436, f3437, v3440, hS, hV3438, hr3439, hM⟩ := hI
   rw [slices_Concat___huff_packet_huff_packet_.l3] at hM
   refine wp_seq <| wp_region_list <| st1 hS (bin rfl rfl rfl) rfl fun a w hS => wpList_nil <| then_n <| wp_seq <| s_cond hS rfl hM (fun hb3442 hM => ?_) (fun hb3442 hM => ?_)
   ·refine wp_skip ?_
    refine then_n <| wp_seq <| wp_block <| wp_seq <| wp_region_list ?_
    obtain ⟨hk3443, hM⟩ := wp_chk hM
    refine st1 hS (ixV rfl rfl Tryd.runUnderlying165 Tryd.sizeOf110 (hp3349.rd (i := 0) rfl) Row.len rfl (hr3348.inb hk3443)) rfl fun a w hS => ?_
    obtain ⟨A3444, c3445, rw3448, hw3450, hr3449, hp3446, hc3447⟩ := hr3348.get hk3443
    refine st1 hS (ldV0 rfl (hp3349.rd (i := 0) rfl) Row.len (hr3348.inb hk3443) (by rw [show Row.v (rd rw3347 v3440) = _ from hw3450]; rfl) Tryd.isAgg110) rfl fun a w hS => st1 hS (asg rfl) rfl fun a w hS => wpList_nil <| then_n <| wp_region_list <| st1 hS (mv rfl) rfl fun a w hS => st1 hS (mv rfl) rfl fun a w hS => ?_
    obtain ⟨hk3451, hM⟩ := wp_chk hM
    refine apV (ys := rw3448) 1 hS rfl rfl hV3438 rfl (hp3446.rd (i := 0) rfl) Tryd.runUnderlying110 Tryd.runUnderlying110 X.el112 Row.len rfl one_row (hr3439.room hr3449 hk3451) rfl fun rw3456 w A3452 c3453 f3454 hz hV3455 hS => ?_
    obtain ⟨zs3457, hzm⟩ := nameE (newslice3436 ++ (rd slices3343 v3440))
    replace hM := lt_to hzm hM
    have hr3458 := RelL.append hr3439 hr3449
    rw [← hz, ← hzm] at hr3458; clear hz hzm
    refine st1 hS (asg rfl) rfl fun a w hS => wpList_nil <| blk_n (then_n ?_)
    refine wp_region_list <| st1 hS (bin rfl rfl rfl) rfl fun a w hS => st1 hS (mv rfl) rfl fun a w hS => wpList_nil <| then_n ?_
    exact hJ3459 _ _ ⟨A3452, c3453, rw3456, zs3457, f3454, (w64 (v3440 + (1 : Int))), hS.to [0, 1] (by kernel_rfl) ⟨rfl, rfl, rfl, rfl, trivial⟩, hV3455, hr3458, hM⟩
   ·refine wp_exit ?_
    refine then_ex (then_ex (blk_same (then_n ?_)))
    refine wp_seq <| wp_region_list <| st1 hS (mv rfl) rfl fun a w hS => st1 hS (asg rfl) rfl fun a w hS => wpList_nil <| then_n <| wp_ret ?_
    exact s_ret (rs := [2]) hS rfl rfl (hret p3403 A3433 c3434 rw3435 newslice3436 f3437 w (wp_ok hM) hs3351 hV3438 hr3439 (hS.st.pick [0, 1] (by kernel_rfl)))

theorem huff_merged_1_c {H : Imm} {F : List Frag} {w : World} {R : Ending → World → Prop} {kr : Int → Prop} {kp : Value → Prop} (hG : Gl H) (K : Nat) (x3536 : T_huff_packet) (y3541 : T_huff_packet) (A3537 : Option Addr) (c3538 : Nat) (A3542 : Option Addr) (c3543 : Nat) (hr3539 : Rdl H [] F (ci .i64) A3537 x3536.symbols_) (hc3540 : x3536.symbols_.length ≤ c3538) (hr3544 : Rdl H [] F (ci .i64) A3542 y3541.symbols_) (hc3545 : y3541.symbols_.length ≤ c3543)
    (hS : St w H [] F) (hm : (huff_merged_1.m K x3536 y3541).wp kr kp)
    (hret : ∀ (x3553 : Int) (w : World), kr x3553 → St w H [] F → R (.returned (.int .i64 x3553)) w) :
    Calls Tryd.prog 84 ⟨[.agg ⟨[.int .i64 x3536.often_, .slice A3537 x3536.symbols_.length c3538]⟩, .agg ⟨[.int .i64 y3541.often_, .slice A3542 y3541.symbols_.length c3543]⟩]⟩ w R := by
 refine enter Tryd.func84 rfl Tryd.ntmps84 rfl hS fun a w hS => ?_
 have hM := hm; clear hm
 rw [huff_merged_1.m] at hM
 refine wp_seq <| wp_region_list <| bx ([.int .i64 x3536.often_, .slice A3537 x3536.symbols_.length c3538]) hS rfl rfl rfl fun w b3546 f3547 hB3548 hS => bx ([.int .i64 y3541.often_, .slice A3542 y3541.symbols_.length c3543]) hS rfl rfl rfl fun w b3549 f3550 hB3551 hS => st1 hS (asg rfl) rfl fun a w hS => wpList_nil <| then_n <| wp_seq <| wp_region_list <| st1 hS (fad rfl Tryd.runUnderlying112 rfl Tryd.sizeOf3 rfl) rfl fun a w hS => st1 hS (ldb 1 rfl hB3548 rfl rfl Tryd.isAgg3) rfl fun a w hS => st1 hS (fad rfl Tryd.runUnderlying112 rfl Tryd.sizeOf3 rfl) rfl fun a w hS => st1 hS (ldb 0 rfl hB3551 rfl rfl Tryd.isAgg3) rfl fun a w hS => s_call hS rfl Tryd.call58 (cmp_Compare_int__c hG K x3536.often_ y3541.often_ (hS.st.part 0 [0, 1] (by kernel_rfl)) (wp_bind hM) (fun x3552 w hM  hst => s_back hS.ev hst.appF rfl fun hS => ?_))
 replace hS : Ss _ _ _ H [f3550, f3547] F _ _ := hS
 refine st1 hS (asg rfl) rfl fun a w hS => wpList_nil <| then_n <| wp_ret ?_
 exact s_ret (rs := [4]) hS rfl rfl (hret x3552 w (wp_ok hM) (hS.st.pick [] (by kernel_rfl)))

theorem slices_insertionSortCmpFunc_huff_packet__b6e1_dee5_c {H : Imm} {F : List Frag} {w : World} {R : Ending → World → Prop} {kr : (List T_huff_packet) → Prop} {kp : Value → Prop} (hG : Gl H) (K : Nat) (data3503 : List T_huff_packet) (a_3511 : Int) (b_3512 : Int) (p3504 : Frag) (A3505 : Option Addr) (c3506 : Nat) (rw3507 : List (Row 2)) (f3509 : Frag) (hr3508 : RelL (R_huff_packet p3504) data3503 rw3507) (hV3510 : Vec 112 (Row.v (sz := 2)) 2 A3505 rw3507 c3506 f3509)
    (hS : St w H [p3504, f3509] F) (hm : (slices_insertionSortCmpFunc_huff_packet__b6e1_dee5.m K data3503 a_3511 b_3512).wp kr kp)
    (hret : ∀ (rw3826 : List (Row 2)) (data3827 : (List T_huff_packet)) (f3828 : Frag) (w : World), kr data3827 → (Vec 112 (Row.v (sz := 2)) 2 A3505 rw3826 c3506 f3828) → (RelL (R_huff_packet p3504) data3827 rw3826) → (rw3826.length = rw3507.length) → St w H [p3504, f3828] F → R (.returned (.tuple ⟨[]⟩)) w) :
    Calls Tryd.prog 99 ⟨[.slice A3505 rw3507.length c3506, .int .i64 a_3511, .int .i64 b_3512, fnv 84 [] []]⟩ w R := by
 refine enter Tryd.func99 rfl Tryd.ntmps99 rfl hS fun a w hS => ?_
 have hM := hm; clear hm
 rw [slices_insertionSortCmpFunc_huff_packet__b6e1_dee5.m] at hM
 have hs3513 : ∀ q ∈ p3504, q ∈ p3504 := fun _ h => h
 have hz3514 : rw3507.length = rw3507.length := rfl
 refine wp_seq <| wp_region_list <| st1 hS (mv rfl) rfl fun a w hS => st1 hS (bin rfl rfl rfl) rfl fun a w hS => st1x (v := Value.int .i64) (x0 := (w64 (a_3511 + (1 : Int)))) hS (asg rfl) rfl fun i3515 a w hz hS => ?_
 have hM := lt_to hz hM; clear hz
 refine wpList_nil <| then_n <| wp_block <| s_loopJ (fun k3687 a w => ∃ (rw3680 : List (Row 2)) (data3681 : (List T_huff_packet)) (f3682 : Frag) (i3686 : Int), Ss 53 [] [(0, .slice A3505 rw3680.length c3506), (1, .int .i64 a_3511), (2, .int .i64 b_3512), (3, fnv 84 [] []), (8, .int .i64 i3686)] H [p3504, f3682] F a w ∧ (Vec 112 (Row.v (sz := 2)) 2 A3505 rw3680 c3506 f3682) ∧ (RelL (R_huff_packet p3504) data3681 rw3680) ∧ (rw3680.length = rw3507.length) ∧ (slices_insertionSortCmpFunc_huff_packet__b6e1_dee5.l1 K a_3511 b_3512 k3687 data3681 i3686).wp kr kp) K ?_ ?_ ?_
 ·exact ⟨rw3507, data3503, f3509, i3515, hS.to [0, 1] (by kernel_rfl) ⟨rfl, rfl, rfl, rfl, rfl, trivial⟩, hV3510, hr3508, hz3514, hM⟩
 ·intro a w hI; obtain ⟨_, _, _, _, _, _, _, _, hM⟩ := hI; exact wp_fail hM
 ·intro k3687 a w hI J3825 hJ3825
  obtain ⟨rw3680, data3681, f3682, i3686, hS, hV3683, hr3684, hz3685, hM⟩ := hI
  rw [slices_insertionSortCmpFunc_huff_packet__b6e1_dee5.l1] at hM
  refine wp_seq <| wp_seq <| wp_region_list <| st1 hS (mv rfl) rfl fun a w hS => st1 hS (mv rfl) rfl fun a w hS => st1 hS (bin rfl rfl rfl) rfl fun a w hS => wpList_nil <| then_n <| s_cond hS rfl hM (fun hb3688 hM => ?_) (fun hb3688 hM => ?_)
  ·refine wp_skip ?_
   refine then_n <| wp_seq <| wp_block <| wp_seq <| wp_region_list <| st1 hS (mv rfl) rfl fun a w hS => st1 hS (asg rfl) rfl fun a w hS => wpList_nil <| then_n <| wp_block <| s_loopJ (fun k3764 a w => ∃ (rw3757 : List (Row 2)) (data3758 : (List T_huff_packet)) (f3759 : Frag) (j3763 : Int), Ss 53 [] [(0, .slice A3505 rw3757.length c3506), (1, .int .i64 a_3511), (2, .int .i64 b_3512), (3, fnv 84 [] []), (8, .int .i64 i3686), (9, .int .i64 j3763)] H [p3504, f3759] F a w ∧ (Vec 112 (Row.v (sz := 2)) 2 A3505 rw3757 c3506 f3759) ∧ (RelL (R_huff_packet p3504) data3758 rw3757) ∧ (rw3757.length = rw3507.length) ∧ (slices_insertionSortCmpFunc_huff_packet__b6e1_dee5.l2 K (slices_insertionSortCmpFunc_huff_packet__b6e1_dee5.l1 K a_3511 b_3512 k3687) a_3511 i3686 k3764 data3758 j3763).wp kr kp) K ?_ ?_ ?_
   ·exact ⟨rw3680, data3681, f3682, i3686, hS.to [0, 1] (by kernel_rfl) ⟨rfl, rfl, rfl, rfl, rfl, rfl, trivial⟩, hV3683, hr3684, hz3685, hM⟩
   ·intro a w hI; obtain ⟨_, _, _, _, _, _, _, _, hM⟩ := hI; exact wp_fail hM
   ·intro k3764 a w hI J3824 hJ3824
    obtain ⟨rw3757, data3758, f3759, j3763, hS, hV3760, hr3761, hz3762, hM⟩ := hI
    rw [slices_insertionSortCmpFunc_huff_packet__b6e1_dee5.l2] at hM
    refine wp_seq <| seq_joinJ (fun a w => ∃ (v3781 : Bool), Ss 53 [] [(0, .slice A3505 rw3757.length c3506), (1, .int .i64 a_3511), (2, .int .i64 b_3512), (3, fnv 84 [] []), (8, .int .i64 i3686), (9, .int .i64 j3763), (34, .bool v3781)] H [p3504, f3759] F a w ∧ (slices_insertionSortCmpFunc_huff_packet__b6e1_dee5.j3 K (slices_insertionSortCmpFunc_huff_packet__b6e1_dee5.l1 K a_3511 b_3512 k3687) (slices_insertionSortCmpFunc_huff_packet__b6e1_dee5.l2 K (slices_insertionSortCmpFunc_huff_packet__b6e1_dee5.l1 K a_3511 b_3512 k3687) a_3511 i3686 k3764) i3686 data3758 j3763 v3781).wp kr kp) (fun J3782 hJ3782 => ?_) ?_
    ·refine ifB (b := (decide (j3763 > a_3511))) hM (fun hb3765 hM => ?_) (fun hb3765 hM => ?_)
     ·obtain ⟨hk3767, hM⟩ := wp_chk hM
      obtain ⟨A3768, c3769, hw3772, hp3770, hc3771⟩ := hr3761.get hk3767
      obtain ⟨hk3774, hM⟩ := wp_chk hM
      obtain ⟨A3775, c3776, hw3779, hp3777, hc3778⟩ := hr3761.get hk3774
      refine draw_begin (vals := [some (.int .i64 j3763), some (.int .i64 a_3511), some (.bool true), some (.bool true), some (fnv 84 [] []), some (.slice A3505 rw3757.length c3506), some (.int .i64 j3763), some (slp A3505 (Int.toNat j3763 * 2)), some (.agg ⟨[.int .i64 ((rd data3758 j3763).often_), .slice A3768 ((rd data3758 j3763).symbols_).length c3769]⟩), some (.slice A3505 rw3757.length c3506), some (.int .i64 j3763), some (.int .i64 (w64 (j3763 - (1 : Int)))), some (slp A3505 (Int.toNat (w64 (j3763 - (1 : Int))) * 2)), some (.agg ⟨[.int .i64 ((rd data3758 (w64 (j3763 - (1 : Int)))).often_), .slice A3775 ((rd data3758 (w64 (j3763 - (1 : Int)))).symbols_).length c3776]⟩), none, none, none]) hS mixed rfl ?_
      intro l w ho hcl hA hst
      refine phq hA hst ho hcl navail nmust 14 [0, 1, 2, 3, 4, 5, 6, 7, 8, 9, 10, 11, 12, 13] rfl rfl rfl rfl rfl (by exact ⟨nR rfl rfl rfl rfl rfl (by exact ovE (mv rfl) rfl), nR rfl rfl rfl rfl rfl (by exact ovE (mv rfl) rfl), nR rfl rfl rfl rfl rfl (by exact ovE (bin rfl rfl rfl) (congrArg Value.bool hb3765)), nR rfl rfl rfl rfl rfl (by exact ovE (mv rfl) rfl), nW rfl rfl rfl rfl rfl rfl rfl rfl (by exact ovE (mv rfl) rfl), nW rfl rfl rfl rfl rfl rfl rfl rfl (by exact ovE (mv rfl) rfl), nW rfl rfl rfl rfl rfl rfl rfl rfl (by exact ovE (mv rfl) rfl), nW rfl rfl rfl rfl rfl rfl rfl rfl (by exact ovE (ixV rfl rfl Tryd.runUnderlying110 Tryd.sizeOf112 (hV3760.rd (i := 1) rfl) Row.len rfl (hr3761.inb hk3767)) rfl), nW rfl rfl rfl rfl rfl rfl rfl rfl (by exact ovE (ovE (ldVA rfl (hV3760.rd (i := 1) rfl) Row.len (hr3761.inb hk3767) Tryd.isAgg112 Tryd.sizeOf112 rfl) (congrArg (fun l => Value.agg ⟨l⟩) hw3772)) rfl), nW rfl rfl rfl rfl rfl rfl rfl rfl (by exact ovE (mv rfl) rfl), nW rfl rfl rfl rfl rfl rfl rfl rfl (by exact ovE (mv rfl) rfl), nW rfl rfl rfl rfl rfl rfl rfl rfl (by exact ovE (bin rfl rfl rfl) rfl), nW rfl rfl rfl rfl rfl rfl rfl rfl (by exact ovE (ixV rfl rfl Tryd.runUnderlying110 Tryd.sizeOf112 (hV3760.rd (i := 1) rfl) Row.len rfl (hr3761.inb hk3774)) rfl), nW rfl rfl rfl rfl rfl rfl rfl rfl (by exact ovE (ovE (ldVA rfl (hV3760.rd (i := 1) rfl) Row.len (hr3761.inb hk3774) Tryd.isAgg112 Tryd.sizeOf112 rfl) (congrArg (fun l => Value.agg ⟨l⟩) hw3779)) rfl), trivial⟩) fun D l a w ho hcl hav hpre hm hE hk hA hst => ?_
      have hS := (Ss.mk hE hst).env2 (e' := [(21, .bool true), (22, fnv 84 [] []), (26, .agg ⟨[.int .i64 ((rd data3758 j3763).often_), .slice A3768 ((rd data3758 j3763).symbols_).length c3769]⟩), (31, .agg ⟨[.int .i64 ((rd data3758 (w64 (j3763 - (1 : Int)))).often_), .slice A3775 ((rd data3758 (w64 (j3763 - (1 : Int)))).symbols_).length c3776]⟩)]) ⟨rfl, rfl, rfl, rfl, trivial⟩
      refine op_of_nth rfl <| unguard hS rfl rfl rfl rfl <| s_callV hS rfl rfl Tryd.call84 (huff_merged_1_c hG K (T_huff_packet.mk ((rd data3758 j3763).often_) ((rd data3758 j3763).symbols_)) (T_huff_packet.mk ((rd data3758 (w64 (j3763 - (1 : Int)))).often_) ((rd data3758 (w64 (j3763 - (1 : Int)))).symbols_)) A3768 c3769 A3775 c3776 (hp3770.rdF (i := 0) rfl) hc3771 (hp3777.rdF (i := 0) rfl) hc3778 (hS.st.part 0 [0, 1] (by kernel_rfl)) (wp_bind hM) (fun x3780 w hM  hst => s_back hS.ev hst.appF rfl fun hS => ?_))
      replace hS : Ss _ _ _ H [p3504, f3759] F _ _ := hS
      refine wpList_nil (then_n ?_)
      replace hst := hS.st
      obtain ⟨hcl, hmust, hav2, hA⟩ := dn (vals' := [some (.int .i64 j3763), some (.int .i64 a_3511), some (.bool true), some (.bool true), some (fnv 84 [] []), some (.slice A3505 rw3757.length c3506), some (.int .i64 j3763), some (slp A3505 (Int.toNat j3763 * 2)), some (.agg ⟨[.int .i64 ((rd data3758 j3763).often_), .slice A3768 ((rd data3758 j3763).symbols_).length c3769]⟩), some (.slice A3505 rw3757.length c3506), some (.int .i64 j3763), some (.int .i64 (w64 (j3763 - (1 : Int)))), some (slp A3505 (Int.toNat (w64 (j3763 - (1 : Int))) * 2)), some (.agg ⟨[.int .i64 ((rd data3758 (w64 (j3763 - (1 : Int)))).often_), .slice A3775 ((rd data3758 (w64 (j3763 - (1 : Int)))).symbols_).length c3776]⟩), some (.int .i64 x3780), some (.bool (decide (x3780 < (0 : Int)))), some (.bool (decide (x3780 < (0 : Int))))]) 14 [(3, 14), (4, 14), (8, 14), (13, 14), (2, 3), (7, 8), (12, 13), (0, 2), (1, 2), (5, 7), (6, 7), (9, 12), (11, 12), (10, 11)] hA hcl hav hm hpre hk rfl rfl rfl rfl rfl rfl rfl
      clear hm hav
      refine phqE hA hst ho hcl hmust [15, 16] rfl rfl rfl (by exact ⟨nW rfl rfl rfl rfl rfl rfl rfl rfl (by exact ovE (bin rfl rfl rfl) rfl), nR rfl rfl rfl rfl rfl (by exact ovE (pk rfl rfl rfl) rfl), trivial⟩) fun a w hS => ?_
      replace hS := hS.env2 (e' := [(0, .slice A3505 rw3757.length c3506), (1, .int .i64 a_3511), (2, .int .i64 b_3512), (3, fnv 84 [] []), (8, .int .i64 i3686), (9, .int .i64 j3763), (34, .bool (decide (x3780 < (0 : Int))))]) ⟨rfl, rfl, rfl, rfl, rfl, rfl, rfl, trivial⟩
      refine then_n ?_
      exact hJ3782 _ _ ⟨(decide (x3780 < (0 : Int))), hS.to [0, 1] (by kernel_rfl) ⟨rfl, rfl, rfl, rfl, rfl, rfl, rfl, trivial⟩, hM⟩
     ·refine draw_begin (vals := [some (.int .i64 j3763), some (.int .i64 a_3511), some (.bool false), some (.bool false), some (undef), some (undef), some (undef), some (undef), some (undef), some (undef), some (undef), some (undef), some (undef), some (undef), some (undef), some (undef), some (.bool false)]) hS mixed rfl ?_
      intro l w ho hcl hA hst
      refine phqE hA hst ho hcl nmust [0, 1, 2, 3, 4, 5, 6, 7, 8, 9, 10, 11, 12, 13, 14, 15, 16] rfl rfl rfl (by exact ⟨nR rfl rfl rfl rfl rfl (by exact ovE (mv rfl) rfl), nR rfl rfl rfl rfl rfl (by exact ovE (mv rfl) rfl), nR rfl rfl rfl rfl rfl (by exact ovE (bin rfl rfl rfl) (congrArg Value.bool hb3765)), nR rfl rfl rfl rfl rfl (by exact ovE (mv rfl) rfl), nS rfl rfl rfl rfl rfl rfl rfl rfl rfl, nS rfl rfl rfl rfl rfl rfl rfl rfl rfl, nS rfl rfl rfl rfl rfl rfl rfl rfl rfl, nS rfl rfl rfl rfl rfl rfl rfl rfl rfl, nS rfl rfl rfl rfl rfl rfl rfl rfl rfl, nS rfl rfl rfl rfl rfl rfl rfl rfl rfl, nS rfl rfl rfl rfl rfl rfl rfl rfl rfl, nS rfl rfl rfl rfl rfl rfl rfl rfl rfl, nS rfl rfl rfl rfl rfl rfl rfl rfl rfl, nS rfl rfl rfl rfl rfl rfl rfl rfl rfl, nS rfl rfl rfl rfl rfl rfl rfl rfl rfl, nS rfl rfl rfl rfl rfl rfl rfl rfl rfl, nR rfl rfl rfl rfl rfl (by exact ovE (pk rfl rfl rfl) rfl), trivial⟩) fun a w hS => ?_
      replace hS := hS.env2 (e' := [(0, .slice A3505 rw3757.length c3506), (1, .int .i64 a_3511), (2, .int .i64 b_3512), (3, fnv 84 [] []), (8, .int .i64 i3686), (9, .int .i64 j3763), (34, .bool false)]) ⟨rfl, rfl, rfl, rfl, rfl, rfl, rfl, trivial⟩
      refine then_n ?_
      exact hJ3782 _ _ ⟨false, hS.to [0, 1] (by kernel_rfl) ⟨rfl, rfl, rfl, rfl, rfl, rfl, rfl, trivial⟩, hM⟩
    ·intro a w hI
     obtain ⟨v3781, hS, hM⟩ := hI
     rw [slices_insertionSortCmpFunc_huff_packet__b6e1_dee5.j3] at hM
     refine s_cond hS rfl hM (fun hb3783 hM => ?_) (fun hb3783 hM => ?_)
     ·refine wp_skip ?_
      refine then_n <| wp_seq <| wp_block ?_
      obtain ⟨hk3786, hM⟩ := wp_chk hM
      obtain ⟨A3787, c3788, hw3791, hp3789, hc3790⟩ := hr3761.get hk3786
      obtain ⟨hk3793, hM⟩ := wp_chk hM
      obtain ⟨A3794, c3795, hw3798, hp3796, hc3797⟩ := hr3761.get hk3793
      refine draw_begin (vals := [some (.slice A3505 rw3757.length c3506), some (.int .i64 j3763), some (.slice A3505 rw3757.length c3506), some (.int .i64 j3763), some (.int .i64 (w64 (j3763 - (1 : Int)))), some (.slice A3505 rw3757.length c3506), some (.int .i64 j3763), some (.int .i64 (w64 (j3763 - (1 : Int)))), some (slp A3505 (Int.toNat (w64 (j3763 - (1 : Int))) * 2)), some (.agg ⟨[.int .i64 ((rd data3758 (w64 (j3763 - (1 : Int)))).often_), .slice A3787 ((rd data3758 (w64 (j3763 - (1 : Int)))).symbols_).length c3788]⟩), some (.slice A3505 rw3757.length c3506), some (.int .i64 j3763), some (slp A3505 (Int.toNat j3763 * 2)), some (.agg ⟨[.int .i64 ((rd data3758 j3763).often_), .slice A3794 ((rd data3758 j3763).symbols_).length c3795]⟩), some (slp A3505 (Int.toNat j3763 * 2)), none, none, none]) hS mixed rfl ?_
      intro l w ho hcl hA hst
      refine phq hA hst ho hcl navail nmust 15 [0, 1, 2, 3, 4, 5, 6, 7, 8, 9, 10, 11, 12, 13, 14] rfl rfl rfl rfl rfl (by exact ⟨nR rfl rfl rfl rfl rfl (by exact ovE (mv rfl) rfl), nR rfl rfl rfl rfl rfl (by exact ovE (mv rfl) rfl), nR rfl rfl rfl rfl rfl (by exact ovE (mv rfl) rfl), nR rfl rfl rfl rfl rfl (by exact ovE (mv rfl) rfl), nR rfl rfl rfl rfl rfl (by exact ovE (bin rfl rfl rfl) rfl), nR rfl rfl rfl rfl rfl (by exact ovE (mv rfl) rfl), nR rfl rfl rfl rfl rfl (by exact ovE (mv rfl) rfl), nR rfl rfl rfl rfl rfl (by exact ovE (bin rfl rfl rfl) rfl), nR rfl rfl rfl rfl rfl (by exact ovE (ixV rfl rfl Tryd.runUnderlying110 Tryd.sizeOf112 (hV3760.rd (i := 1) rfl) Row.len rfl (hr3761.inb hk3786)) rfl), nR rfl rfl rfl rfl rfl (by exact ovE (ovE (ldVA rfl (hV3760.rd (i := 1) rfl) Row.len (hr3761.inb hk3786) Tryd.isAgg112 Tryd.sizeOf112 rfl) (congrArg (fun l => Value.agg ⟨l⟩) hw3791)) rfl), nR rfl rfl rfl rfl rfl (by exact ovE (mv rfl) rfl), nR rfl rfl rfl rfl rfl (by exact ovE (mv rfl) rfl), nR rfl rfl rfl rfl rfl (by exact ovE (ixV rfl rfl Tryd.runUnderlying110 Tryd.sizeOf112 (hV3760.rd (i := 1) rfl) Row.len rfl (hr3761.inb hk3793)) rfl), nR rfl rfl rfl rfl rfl (by exact ovE (ovE (ldVA rfl (hV3760.rd (i := 1) rfl) Row.len (hr3761.inb hk3793) Tryd.isAgg112 Tryd.sizeOf112 rfl) (congrArg (fun l => Value.agg ⟨l⟩) hw3798)) rfl), nR rfl rfl rfl rfl rfl (by exact ovE (ixV rfl rfl Tryd.runUnderlying110 Tryd.sizeOf112 (hV3760.rd (i := 1) rfl) Row.len rfl (hr3761.inb hk3793)) rfl), trivial⟩) fun D l a w ho hcl hav hpre hm hE hk hA hst => ?_
      have hS := (Ss.mk hE hst).env2 (e' := [(46, .agg ⟨[.int .i64 ((rd data3758 (w64 (j3763 - (1 : Int)))).often_), .slice A3787 ((rd data3758 (w64 (j3763 - (1 : Int)))).symbols_).length c3788]⟩), (51, slp A3505 (Int.toNat j3763 * 2))]) ⟨rfl, rfl, trivial⟩
      refine op_of_nth rfl <| stVR (i := j3763) (sz := 2) 1 (⟨[.int .i64 ((rd data3758 (w64 (j3763 - (1 : Int)))).often_), .slice A3787 ((rd data3758 (w64 (j3763 - (1 : Int)))).symbols_).length c3788], by simp, by simp [Value.oneCell']⟩ : Row 2) hS rfl rfl hV3760 rfl Tryd.sizeOf112 rfl (hr3761.inb hk3793) fun rw3805 w f3803 hz hV3804 hS => ?_
      obtain ⟨zs3806, hzm⟩ := nameE (data3758.set (Int.toNat j3763) (T_huff_packet.mk ((rd data3758 (w64 (j3763 - (1 : Int)))).often_) ((rd data3758 (w64 (j3763 - (1 : Int)))).symbols_)))
      replace hM := lt_to hzm hM
      have hr3807 := RelL.set (x := (T_huff_packet.mk ((rd data3758 (w64 (j3763 - (1 : Int)))).often_) ((rd data3758 (w64 (j3763 - (1 : Int)))).symbols_))) (r := (⟨[.int .i64 ((rd data3758 (w64 (j3763 - (1 : Int)))).often_), .slice A3787 ((rd data3758 (w64 (j3763 - (1 : Int)))).symbols_).length c3788], by simp, by simp [Value.oneCell']⟩ : Row 2)) (Int.toNat j3763) hr3761 (show R_huff_packet p3504 _ _ from ⟨A3787, c3788, rfl, hp3789, hc3790⟩)
      have hz3808 : rw3805.length = rw3757.length := by rw [hz]; exact List.length_set ..
      rw [← hz, ← hzm] at hr3807; clear hz hzm
      have hz3809 := Eq.trans hz3808 hz3762
      refine wpList_nil (then_n ?_)
      replace hst := hS.st
      obtain ⟨hk3811, hM⟩ := wp_chk hM
      obtain ⟨hcl, hmust, hav2, hA⟩ := dnN (vals' := [some (.slice A3505 rw3757.length c3506), some (.int .i64 j3763), some (.slice A3505 rw3757.length c3506), some (.int .i64 j3763), some (.int .i64 (w64 (j3763 - (1 : Int)))), some (.slice A3505 rw3757.length c3506), some (.int .i64 j3763), some (.int .i64 (w64 (j3763 - (1 : Int)))), some (slp A3505 (Int.toNat (w64 (j3763 - (1 : Int))) * 2)), some (.agg ⟨[.int .i64 ((rd data3758 (w64 (j3763 - (1 : Int)))).often_), .slice A3787 ((rd data3758 (w64 (j3763 - (1 : Int)))).symbols_).length c3788]⟩), some (.slice A3505 rw3757.length c3506), some (.int .i64 j3763), some (slp A3505 (Int.toNat j3763 * 2)), some (.agg ⟨[.int .i64 ((rd data3758 j3763).often_), .slice A3794 ((rd data3758 j3763).symbols_).length c3795]⟩), some (slp A3505 (Int.toNat j3763 * 2)), some undef, some (slp A3505 (Int.toNat (w64 (j3763 - (1 : Int))) * 2)), none]) 15 [(0, 15), (1, 15), (5, 15), (6, 15), (7, 15), (8, 15), (9, 15), (13, 15), (14, 15), (12, 13), (10, 12), (11, 12)] hA hcl hav hm hpre rfl rfl rfl rfl rfl
      clear hm hav
      refine phq hA hst ho hcl hav2 hmust 17 [2, 3, 4, 16] rfl rfl rfl rfl rfl (by exact ⟨nR rfl rfl rfl rfl rfl (by exact ovE (mv rfl) rfl), nR rfl rfl rfl rfl rfl (by exact ovE (mv rfl) rfl), nR rfl rfl rfl rfl rfl (by exact ovE (bin rfl rfl rfl) rfl), nR rfl rfl rfl rfl rfl (by exact ovE (ixV (lenx hz3808 rfl) rfl Tryd.runUnderlying110 Tryd.sizeOf112 (hV3804.rd (i := 1) rfl) Row.len rfl (hr3807.inb hk3811)) rfl), trivial⟩) fun D l a w ho hcl hav hpre hm hE hk hA hst => ?_
      have hS := (Ss.mk hE hst).env2 (e' := [(50, .agg ⟨[.int .i64 ((rd data3758 j3763).often_), .slice A3794 ((rd data3758 j3763).symbols_).length c3795]⟩), (52, slp A3505 (Int.toNat (w64 (j3763 - (1 : Int))) * 2))]) ⟨rfl, rfl, trivial⟩
      refine op_of_nth rfl <| stVR (i := (w64 (j3763 - (1 : Int)))) (sz := 2) 1 (⟨[.int .i64 ((rd data3758 j3763).often_), .slice A3794 ((rd data3758 j3763).symbols_).length c3795], by simp, by simp [Value.oneCell']⟩ : Row 2) hS rfl rfl hV3804 rfl Tryd.sizeOf112 rfl (hr3807.inb hk3811) fun rw3818 w f3816 hz hV3817 hS => ?_
      obtain ⟨zs3819, hzm⟩ := nameE (zs3806.set (Int.toNat (w64 (j3763 - (1 : Int)))) (T_huff_packet.mk ((rd data3758 j3763).often_) ((rd data3758 j3763).symbols_)))
      replace hM := lt_to hzm hM
      have hr3820 := RelL.set (x := (T_huff_packet.mk ((rd data3758 j3763).often_) ((rd data3758 j3763).symbols_))) (r := (⟨[.int .i64 ((rd data3758 j3763).often_), .slice A3794 ((rd data3758 j3763).symbols_).length c3795], by simp, by simp [Value.oneCell']⟩ : Row 2)) (Int.toNat (w64 (j3763 - (1 : Int)))) hr3807 (show R_huff_packet p3504 _ _ from ⟨A3794, c3795, rfl, hp3796, hc3797⟩)
      have hz3821 : rw3818.length = rw3805.length := by rw [hz]; exact List.length_set ..
      rw [← hz, ← hzm] at hr3820; clear hz hzm
      have hz3822 := Eq.trans hz3821 hz3809
      refine wpList_nil (then_n ?_)
      replace hst := hS.st
      obtain ⟨hcl, hmust, hav2, hA⟩ := dnN (vals' := [some (.slice A3505 rw3757.length c3506), some (.int .i64 j3763), some (.slice A3505 rw3757.length c3506), some (.int .i64 j3763), some (.int .i64 (w64 (j3763 - (1 : Int)))), some (.slice A3505 rw3757.length c3506), some (.int .i64 j3763), some (.int .i64 (w64 (j3763 - (1 : Int)))), some (slp A3505 (Int.toNat (w64 (j3763 - (1 : Int))) * 2)), some (.agg ⟨[.int .i64 ((rd data3758 (w64 (j3763 - (1 : Int)))).often_), .slice A3787 ((rd data3758 (w64 (j3763 - (1 : Int)))).symbols_).length c3788]⟩), some (.slice A3505 rw3757.length c3506), some (.int .i64 j3763), some (slp A3505 (Int.toNat j3763 * 2)), some (.agg ⟨[.int .i64 ((rd data3758 j3763).often_), .slice A3794 ((rd data3758 j3763).symbols_).length c3795]⟩), some (slp A3505 (Int.toNat j3763 * 2)), some undef, some (slp A3505 (Int.toNat (w64 (j3763 - (1 : Int))) * 2)), some undef]) 17 [(0, 17), (1, 17), (2, 17), (3, 17), (4, 17), (5, 17), (6, 17), (7, 17), (8, 17), (9, 17), (10, 17), (11, 17), (12, 17), (13, 17), (14, 17), (15, 17), (16, 17)] hA hcl hav hm hpre rfl rfl rfl rfl rfl
      clear hm hav
      refine phqE hA hst ho hcl hmust [] rfl rfl rfl trivial fun a w hS => ?_
      replace hS := hS.env2 (e' := [(0, .slice A3505 rw3818.length c3506), (1, .int .i64 a_3511), (2, .int .i64 b_3512), (3, fnv 84 [] []), (8, .int .i64 i3686), (9, .int .i64 j3763)]) ⟨(relk (u := .slice A3505 rw3757.length c3506) rfl (by rw [hz3821, hz3808])), rfl, rfl, rfl, rfl, rfl, trivial⟩
      refine blk_n (then_n ?_)
      refine wp_region_list <| st1 hS (mv rfl) rfl fun a w hS => st1 hS (bin rfl rfl rfl) rfl fun a w hS => st1x (v := Value.int .i64) (x0 := (w64 (j3763 - (1 : Int)))) hS (asg rfl) rfl fun j3823 a w hz hS => ?_
      have hM := lt_to hz hM; clear hz
      refine wpList_nil <| then_n ?_
      exact hJ3824 _ _ ⟨rw3818, zs3819, f3816, j3823, hS.to [0, 1] (by kernel_rfl) ⟨rfl, rfl, rfl, rfl, rfl, rfl, trivial⟩, hV3817, hr3820, hz3822, hM⟩
     ·refine wp_exit ?_
      refine then_ex (then_ex (blk_same (blk_n (then_n ?_))))
      refine wp_region_list <| st1 hS (mv rfl) rfl fun a w hS => st1 hS (bin rfl rfl rfl) rfl fun a w hS => st1x (v := Value.int .i64) (x0 := (w64 (i3686 + (1 : Int)))) hS (asg rfl) rfl fun i3784 a w hz hS => ?_
      have hM := lt_to hz hM; clear hz
      refine wpList_nil <| then_n ?_
      exact hJ3825 _ _ ⟨rw3757, data3758, f3759, i3784, hS.to [0, 1] (by kernel_rfl) ⟨rfl, rfl, rfl, rfl, rfl, trivial⟩, hV3760, hr3761, hz3762, hM⟩
  ·refine wp_exit ?_
   refine then_ex (then_ex (blk_same ?_))
   exact s_end (rs := []) hS rfl rfl (hret rw3680 data3681 f3682 w (wp_ok hM) hV3683 hr3684 hz3685 (hS.st.pick [0, 1] (by kernel_rfl)))

theorem slices_swapRangeCmpFunc_huff_packet__b6e1_b35e_c {H : Imm} {F : List Frag} {w : World} {R : Ending → World → Prop} {kr : (List T_huff_packet) → Prop} {kp : Value → Prop} (hG : Gl H) (K : Nat) (data4208 : List T_huff_packet) (a_4216 : Int) (b_4217 : Int) (n_4218 : Int) (p4209 : Frag) (A4210 : Option Addr) (c4211 : Nat) (rw4212 : List (Row 2)) (f4214 : Frag) (hr4213 : RelL (R_huff_packet p4209) data4208 rw4212) (hV4215 : Vec 112 (Row.v (sz := 2)) 2 A4210 rw4212 c4211 f4214)
    (hS : St w H [p4209, f4214] F) (hm : (slices_swapRangeCmpFunc_huff_packet__b6e1_b35e.m K data4208 a_4216 b_4217 n_4218).wp kr kp)
    (hret : ∀ (rw4319 : List (Row 2)) (data4320 : (List T_huff_packet)) (f4321 : Frag) (w : World), kr data4320 → (Vec 112 (Row.v (sz := 2)) 2 A4210 rw4319 c4211 f4321) → (RelL (R_huff_packet p4209) data4320 rw4319) → (rw4319.length = rw4212.length) → St w H [p4209, f4321] F → R (.returned (.tuple ⟨[]⟩)) w) :
    Calls Tryd.prog 109 ⟨[.slice A4210 rw4212.length c4211, .int .i64 a_4216, .int .i64 b_4217, .int .i64 n_4218, fnv 84 [] []]⟩ w R := by
 refine enter Tryd.func109 rfl Tryd.ntmps109 rfl hS fun a w hS => ?_
 have hM := hm; clear hm
 rw [slices_swapRangeCmpFunc_huff_packet__b6e1_b35e.m] at hM
 have hs4219 : ∀ q ∈ p4209, q ∈ p4209 := fun _ h => h
 have hz4220 : rw4212.length = rw4212.length := rfl
 refine wp_seq <| wp_region_list <| st1 hS (asg rfl) rfl fun a w hS => wpList_nil <| then_n <| wp_block <| s_loopJ (fun k4277 a w => ∃ (rw4270 : List (Row 2)) (data4271 : (List T_huff_packet)) (f4272 : Frag) (i4276 : Int), Ss 38 [] [(0, .slice A4210 rw4270.length c4211), (1, .int .i64 a_4216), (2, .int .i64 b_4217), (3, .int .i64 n_4218), (10, .int .i64 i4276)] H [p4209, f4272] F a w ∧ (Vec 112 (Row.v (sz := 2)) 2 A4210 rw4270 c4211 f4272) ∧ (RelL (R_huff_packet p4209) data4271 rw4270) ∧ (rw4270.length = rw4212.length) ∧ (slices_swapRangeCmpFunc_huff_packet__b6e1_b35e.l1 K a_4216 b_4217 n_4218 k4277 data4271 i4276).wp kr kp) K ?_ ?_ ?_
 ·exact ⟨rw4212, data4208, f4214, (0 : Int), hS.to [0, 1] (by kernel_rfl) ⟨rfl, rfl, rfl, rfl, rfl, trivial⟩, hV4215, hr4213, hz4220, hM⟩
 ·intro a w hI; obtain ⟨_, _, _, _, _, _, _, _, hM⟩ := hI; exact wp_fail hM
 ·intro k4277 a w hI J4318 hJ4318
  obtain ⟨rw4270, data4271, f4272, i4276, hS, hV4273, hr4274, hz4275, hM⟩ := hI
  rw [slices_swapRangeCmpFunc_huff_packet__b6e1_b35e.l1] at hM
  refine wp_seq <| wp_seq <| wp_region_list <| st1 hS (mv rfl) rfl fun a w hS => st1 hS (mv rfl) rfl fun a w hS => st1 hS (bin rfl rfl rfl) rfl fun a w hS => wpList_nil <| then_n <| s_cond hS rfl hM (fun hb4278 hM => ?_) (fun hb4278 hM => ?_)
  ·refine wp_skip ?_
   refine then_n <| wp_seq <| wp_block ?_
   obtain ⟨hk4280, hM⟩ := wp_chk hM
   obtain ⟨A4281, c4282, hw4285, hp4283, hc4284⟩ := hr4274.get hk4280
   obtain ⟨hk4287, hM⟩ := wp_chk hM
   obtain ⟨A4288, c4289, hw4292, hp4290, hc4291⟩ := hr4274.get hk4287
   refine draw_begin (vals := [some (.slice A4210 rw4270.length c4211), some (.int .i64 a_4216), some (.int .i64 i4276), some (.int .i64 (w64 (a_4216 + i4276))), some (.slice A4210 rw4270.length c4211), some (.int .i64 b_4217), some (.int .i64 i4276), some (.int .i64 (w64 (b_4217 + i4276))), some (.slice A4210 rw4270.length c4211), some (.int .i64 b_4217), some (.int .i64 i4276), some (.int .i64 (w64 (b_4217 + i4276))), some (slp A4210 (Int.toNat (w64 (b_4217 + i4276)) * 2)), some (.agg ⟨[.int .i64 ((rd data4271 (w64 (b_4217 + i4276))).often_), .slice A4281 ((rd data4271 (w64 (b_4217 + i4276))).symbols_).length c4282]⟩), some (.slice A4210 rw4270.length c4211), some (.int .i64 a_4216), some (.int .i64 i4276), some (.int .i64 (w64 (a_4216 + i4276))), some (slp A4210 (Int.toNat (w64 (a_4216 + i4276)) * 2)), some (.agg ⟨[.int .i64 ((rd data4271 (w64 (a_4216 + i4276))).often_), .slice A4288 ((rd data4271 (w64 (a_4216 + i4276))).symbols_).length c4289]⟩), some (slp A4210 (Int.toNat (w64 (a_4216 + i4276)) * 2)), none, none, none]) hS mixed rfl ?_
   intro l w ho hcl hA hst
   refine phq hA hst ho hcl navail nmust 21 [0, 1, 2, 3, 4, 5, 6, 7, 8, 9, 10, 11, 12, 13, 14, 15, 16, 17, 18, 19, 20] rfl rfl rfl rfl rfl (by exact ⟨nR rfl rfl rfl rfl rfl (by exact ovE (mv rfl) rfl), nR rfl rfl rfl rfl rfl (by exact ovE (mv rfl) rfl), nR rfl rfl rfl rfl rfl (by exact ovE (mv rfl) rfl), nR rfl rfl rfl rfl rfl (by exact ovE (bin rfl rfl rfl) rfl), nR rfl rfl rfl rfl rfl (by exact ovE (mv rfl) rfl), nR rfl rfl rfl rfl rfl (by exact ovE (mv rfl) rfl), nR rfl rfl rfl rfl rfl (by exact ovE (mv rfl) rfl), nR rfl rfl rfl rfl rfl (by exact ovE (bin rfl rfl rfl) rfl), nR rfl rfl rfl rfl rfl (by exact ovE (mv rfl) rfl), nR rfl rfl rfl rfl rfl (by exact ovE (mv rfl) rfl), nR rfl rfl rfl rfl rfl (by exact ovE (mv rfl) rfl), nR rfl rfl rfl rfl rfl (by exact ovE (bin rfl rfl rfl) rfl), nR rfl rfl rfl rfl rfl (by exact ovE (ixV rfl rfl Tryd.runUnderlying110 Tryd.sizeOf112 (hV4273.rd (i := 1) rfl) Row.len rfl (hr4274.inb hk4280)) rfl), nR rfl rfl rfl rfl rfl (by exact ovE (ovE (ldVA rfl (hV4273.rd (i := 1) rfl) Row.len (hr4274.inb hk4280) Tryd.isAgg112 Tryd.sizeOf112 rfl) (congrArg (fun l => Value.agg ⟨l⟩) hw4285)) rfl), nR rfl rfl rfl rfl rfl (by exact ovE (mv rfl) rfl), nR rfl rfl rfl rfl rfl (by exact ovE (mv rfl) rfl), nR rfl rfl rfl rfl rfl (by exact ovE (mv rfl) rfl), nR rfl rfl rfl rfl rfl (by exact ovE (bin rfl rfl rfl) rfl), nR rfl rfl rfl rfl rfl (by exact ovE (ixV rfl rfl Tryd.runUnderlying110 Tryd.sizeOf112 (hV4273.rd (i := 1) rfl) Row.len rfl (hr4274.inb hk4287)) rfl), nR rfl rfl rfl rfl rfl (by exact ovE (ovE (ldVA rfl (hV4273.rd (i := 1) rfl) Row.len (hr4274.inb hk4287) Tryd.isAgg112 Tryd.sizeOf112 rfl) (congrArg (fun l => Value.agg ⟨l⟩) hw4292)) rfl), nR rfl rfl rfl rfl rfl (by exact ovE (ixV rfl rfl Tryd.runUnderlying110 Tryd.sizeOf112 (hV4273.rd (i := 1) rfl) Row.len rfl (hr4274.inb hk4287)) rfl), trivial⟩) fun D l a w ho hcl hav hpre hm hE hk hA hst => ?_
   have hS := (Ss.mk hE hst).env2 (e' := [(29, .agg ⟨[.int .i64 ((rd data4271 (w64 (b_4217 + i4276))).often_), .slice A4281 ((rd data4271 (w64 (b_4217 + i4276))).symbols_).length c4282]⟩), (36, slp A4210 (Int.toNat (w64 (a_4216 + i4276)) * 2))]) ⟨rfl, rfl, trivial⟩
   refine op_of_nth rfl <| stVR (i := (w64 (a_4216 + i4276))) (sz := 2) 1 (⟨[.int .i64 ((rd data4271 (w64 (b_4217 + i4276))).often_), .slice A4281 ((rd data4271 (w64 (b_4217 + i4276))).symbols_).length c4282], by simp, by simp [Value.oneCell']⟩ : Row 2) hS rfl rfl hV4273 rfl Tryd.sizeOf112 rfl (hr4274.inb hk4287) fun rw4299 w f4297 hz hV4298 hS => ?_
   obtain ⟨zs4300, hzm⟩ := nameE (data4271.set (Int.toNat (w64 (a_4216 + i4276))) (T_huff_packet.mk ((rd data4271 (w64 (b_4217 + i4276))).often_) ((rd data4271 (w64 (b_4217 + i4276))).symbols_)))
   replace hM := lt_to hzm hM
   have hr4301 := RelL.set (x := (T_huff_packet.mk ((rd data4271 (w64 (b_4217 + i4276))).often_) ((rd data4271 (w64 (b_4217 + i4276))).symbols_))) (r := (⟨[.int .i64 ((rd data4271 (w64 (b_4217 + i4276))).often_), .slice A4281 ((rd data4271 (w64 (b_4217 + i4276))).symbols_).length c4282], by simp, by simp [Value.oneCell']⟩ : Row 2)) (Int.toNat (w64 (a_4216 + i4276))) hr4274 (show R_huff_packet p4209 _ _ from ⟨A4281, c4282, rfl, hp4283, hc4284⟩)
   have hz4302 : rw4299.length = rw4270.length := by rw [hz]; exact List.length_set ..
   rw [← hz, ← hzm] at hr4301; clear hz hzm
   have hz4303 := Eq.trans hz4302 hz4275
   refine wpList_nil (then_n ?_)
   replace hst := hS.st
   obtain ⟨hk4305, hM⟩ := wp_chk hM
   obtain ⟨hcl, hmust, hav2, hA⟩ := dnN (vals' := [some (.slice A4210 rw4270.length c4211), some (.int .i64 a_4216), some (.int .i64 i4276), some (.int .i64 (w64 (a_4216 + i4276))), some (.slice A4210 rw4270.length c4211), some (.int .i64 b_4217), some (.int .i64 i4276), some (.int .i64 (w64 (b_4217 + i4276))), some (.slice A4210 rw4270.length c4211), some (.int .i64 b_4217), some (.int .i64 i4276), some (.int .i64 (w64 (b_4217 + i4276))), some (slp A4210 (Int.toNat (w64 (b_4217 + i4276)) * 2)), some (.agg ⟨[.int .i64 ((rd data4271 (w64 (b_4217 + i4276))).often_), .slice A4281 ((rd data4271 (w64 (b_4217 + i4276))).symbols_).length c4282]⟩), some (.slice A4210 rw4270.length c4211), some (.int .i64 a_4216), some (.int .i64 i4276), some (.int .i64 (w64 (a_4216 + i4276))), some (slp A4210 (Int.toNat (w64 (a_4216 + i4276)) * 2)), some (.agg ⟨[.int .i64 ((rd data4271 (w64 (a_4216 + i4276))).often_), .slice A4288 ((rd data4271 (w64 (a_4216 + i4276))).symbols_).length c4289]⟩), some (slp A4210 (Int.toNat (w64 (a_4216 + i4276)) * 2)), some undef, some (slp A4210 (Int.toNat (w64 (b_4217 + i4276)) * 2)), none]) 21 [(0, 21), (1, 21), (2, 21), (3, 21), (8, 21), (9, 21), (10, 21), (11, 21), (12, 21), (13, 21), (19, 21), (20, 21), (18, 19), (14, 18), (17, 18), (15, 17), (16, 17)] hA hcl hav hm hpre rfl rfl rfl rfl rfl
   clear hm hav
   refine phq hA hst ho hcl hav2 hmust 23 [4, 5, 6, 7, 22] rfl rfl rfl rfl rfl (by exact ⟨nR rfl rfl rfl rfl rfl (by exact ovE (mv rfl) rfl), nR rfl rfl rfl rfl rfl (by exact ovE (mv rfl) rfl), nR rfl rfl rfl rfl rfl (by exact ovE (mv rfl) rfl), nR rfl rfl rfl rfl rfl (by exact ovE (bin rfl rfl rfl) rfl), nR rfl rfl rfl rfl rfl (by exact ovE (ixV (lenx hz4302 rfl) rfl Tryd.runUnderlying110 Tryd.sizeOf112 (hV4298.rd (i := 1) rfl) Row.len rfl (hr4301.inb hk4305)) rfl), trivial⟩) fun D l a w ho hcl hav hpre hm hE hk hA hst => ?_
   have hS := (Ss.mk hE hst).env2 (e' := [(35, .agg ⟨[.int .i64 ((rd data4271 (w64 (a_4216 + i4276))).often_), .slice A4288 ((rd data4271 (w64 (a_4216 + i4276))).symbols_).length c4289]⟩), (37, slp A4210 (Int.toNat (w64 (b_4217 + i4276)) * 2))]) ⟨rfl, rfl, trivial⟩
   refine op_of_nth rfl <| stVR (i := (w64 (b_4217 + i4276))) (sz := 2) 1 (⟨[.int .i64 ((rd data4271 (w64 (a_4216 + i4276))).often_), .slice A4288 ((rd data4271 (w64 (a_4216 + i4276))).symbols_).length c4289], by simp, by simp [Value.oneCell']⟩ : Row 2) hS rfl rfl hV4298 rfl Tryd.sizeOf112 rfl (hr4301.inb hk4305) fun rw4312 w f4310 hz hV4311 hS => ?_
   obtain ⟨zs4313, hzm⟩ := nameE (zs4300.set (Int.toNat (w64 (b_4217 + i4276))) (T_huff_packet.mk ((rd data4271 (w64 (a_4216 + i4276))).often_) ((rd data4271 (w64 (a_4216 + i4276))).symbols_)))
   replace hM := lt_to hzm hM
   have hr4314 := RelL.set (x := (T_huff_packet.mk ((rd data4271 (w64 (a_4216 + i4276))).often_) ((rd data4271 (w64 (a_4216 + i4276))).symbols_))) (r := (⟨[.int .i64 ((rd data4271 (w64 (a_4216 + i4276))).often_), .slice A4288 ((rd data4271 (w64 (a_4216 + i4276))).symbols_).length c4289], by simp, by simp [Value.oneCell']⟩ : Row 2)) (Int.toNat (w64 (b_4217 + i4276))) hr4301 (show R_huff_packet p4209 _ _ from ⟨A4288, c4289, rfl, hp4290, hc4291⟩)
   have hz4315 : rw4312.length = rw4299.length := by rw [hz]; exact List.length_set ..
   rw [← hz, ← hzm] at hr4314; clear hz hzm
   have hz4316 := Eq.trans hz4315 hz4303
   refine wpList_nil (then_n ?_)
   replace hst := hS.st
   obtain ⟨hcl, hmust, hav2, hA⟩ := dnN (vals' := [some (.slice A4210 rw4270.length c4211), some (.int .i64 a_4216), some (.int .i64 i4276), some (.int .i64 (w64 (a_4216 + i4276))), some (.slice A4210 rw4270.length c4211), some (.int .i64 b_4217), some (.int .i64 i4276), some (.int .i64 (w64 (b_4217 + i4276))), some (.slice A4210 rw4270.length c4211), some (.int .i64 b_4217), some (.int .i64 i4276), some (.int .i64 (w64 (b_4217 + i4276))), some (slp A4210 (Int.toNat (w64 (b_4217 + i4276)) * 2)), some (.agg ⟨[.int .i64 ((rd data4271 (w64 (b_4217 + i4276))).often_), .slice A4281 ((rd data4271 (w64 (b_4217 + i4276))).symbols_).length c4282]⟩), some (.slice A4210 rw4270.length c4211), some (.int .i64 a_4216), some (.int .i64 i4276), some (.int .i64 (w64 (a_4216 + i4276))), some (slp A4210 (Int.toNat (w64 (a_4216 + i4276)) * 2)), some (.agg ⟨[.int .i64 ((rd data4271 (w64 (a_4216 + i4276))).often_), .slice A4288 ((rd data4271 (w64 (a_4216 + i4276))).symbols_).length c4289]⟩), some (slp A4210 (Int.toNat (w64 (a_4216 + i4276)) * 2)), some undef, some (slp A4210 (Int.toNat (w64 (b_4217 + i4276)) * 2)), some undef]) 23 [(0, 23), (1, 23), (2, 23), (3, 23), (4, 23), (5, 23), (6, 23), (7, 23), (8, 23), (9, 23), (10, 23), (11, 23), (12, 23), (13, 23), (14, 23), (15, 23), (16, 23), (17, 23), (18, 23), (19, 23), (20, 23), (21, 23), (22, 23)] hA hcl hav hm hpre rfl rfl rfl rfl rfl
   clear hm hav
   refine phqE hA hst ho hcl hmust [] rfl rfl rfl trivial fun a w hS => ?_
   replace hS := hS.env2 (e' := [(0, .slice A4210 rw4312.length c4211), (1, .int .i64 a_4216), (2, .int .i64 b_4217), (3, .int .i64 n_4218), (10, .int .i64 i4276)]) ⟨(relk (u := .slice A4210 rw4270.length c4211) rfl (by rw [hz4315, hz4302])), rfl, rfl, rfl, rfl, trivial⟩
   refine blk_n (then_n ?_)
   refine wp_region_list <| st1 hS (mv rfl) rfl fun a w hS => st1 hS (bin rfl rfl rfl) rfl fun a w hS => st1x (v := Value.int .i64) (x0 := (w64 (i4276 + (1 : Int)))) hS (asg rfl) rfl fun i4317 a w hz hS => ?_
   have hM := lt_to hz hM; clear hz
   refine wpList_nil <| then_n ?_
   exact hJ4318 _ _ ⟨rw4312, zs4313, f4310, i4317, hS.to [0, 1] (by kernel_rfl) ⟨rfl, rfl, rfl, rfl, rfl, trivial⟩, hV4311, hr4314, hz4316, hM⟩
  ·refine wp_exit ?_
   refine then_ex (then_ex (blk_same ?_))
   exact s_end (rs := []) hS rfl rfl (hret rw4270 data4271 f4272 w (wp_ok hM) hV4273 hr4274 hz4275 (hS.st.pick [0, 1] (by kernel_rfl)))

theorem slices_rotateCmpFunc_huff_packet__b6e1_b35e_c {H : Imm} {F : List Frag} {w : World} {R : Ending → World → Prop} {kr : (List T_huff_packet) → Prop} {kp : Value → Prop} (hG : Gl H) (K : Nat) (data4188 : List T_huff_packet) (a_4196 : Int) (m4197 : Int) (b_4198 : Int) (p4189 : Frag) (A4190 : Option Addr) (c4191 : Nat) (rw4192 : List (Row 2)) (f4194 : Frag) (hr4193 : RelL (R_huff_packet p4189) data4188 rw4192) (hV4195 : Vec 112 (Row.v (sz := 2)) 2 A4190 rw4192 c4191 f4194)
    (hS : St w H [p4189, f4194] F) (hm : (slices_rotateCmpFunc_huff_packet__b6e1_b35e.m K data4188 a_4196 m4197 b_4198).wp kr kp)
    (hret : ∀ (rw4392 : List (Row 2)) (data4393 : (List T_huff_packet)) (f4394 : Frag) (w : World), kr data4393 → (Vec 112 (Row.v (sz := 2)) 2 A4190 rw4392 c4191 f4394) → (RelL (R_huff_packet p4189) data4393 rw4392) → (rw4392.length = rw4192.length) → St w H [p4189, f4394] F → R (.returned (.tuple ⟨[]⟩)) w) :
    Calls Tryd.prog 108 ⟨[.slice A4190 rw4192.length c4191, .int .i64 a_4196, .int .i64 m4197, .int .i64 b_4198, fnv 84 [] []]⟩ w R := by
 refine enter Tryd.func108 rfl Tryd.ntmps108 rfl hS fun a w hS => ?_
 have hM := hm; clear hm
 rw [slices_rotateCmpFunc_huff_packet__b6e1_b35e.m] at hM
 have hs4199 : ∀ q ∈ p4189, q ∈ p4189 := fun _ h => h
 have hz4200 : rw4192.length = rw4192.length := rfl
 refine wp_seq <| wp_region_list <| st1 hS (mv rfl) rfl fun a w hS => st1 hS (mv rfl) rfl fun a w hS => st1 hS (bin rfl rfl rfl) rfl fun a w hS => st1x (v := Value.int .i64) (x0 := (w64 (m4197 - a_4196))) hS (asg rfl) rfl fun i4201 a w hz hS => ?_
 have hM := lt_to hz hM; clear hz
 refine wpList_nil <| then_n <| wp_seq <| wp_region_list <| st1 hS (mv rfl) rfl fun a w hS => st1 hS (mv rfl) rfl fun a w hS => st1 hS (bin rfl rfl rfl) rfl fun a w hS => st1x (v := Value.int .i64) (x0 := (w64 (b_4198 - m4197))) hS (asg rfl) rfl fun j4202 a w hz hS => ?_
 have hM := lt_to hz hM; clear hz
 refine wpList_nil <| then_n <| seq_joinJ (fun a w => ∃ (rw4377 : List (Row 2)) (data4378 : (List T_huff_packet)) (f4379 : Frag) (i4383 : Int), Ss 58 [] [(0, .slice A4190 rw4377.length c4191), (2, .int .i64 m4197), (4, fnv 84 [] []), (10, .int .i64 i4383)] H [p4189, f4379] F a w ∧ (Vec 112 (Row.v (sz := 2)) 2 A4190 rw4377 c4191 f4379) ∧ (RelL (R_huff_packet p4189) data4378 rw4377) ∧ (rw4377.length = rw4192.length) ∧ (slices_rotateCmpFunc_huff_packet__b6e1_b35e.j2 K m4197 data4378 i4383).wp kr kp) (fun J4384 hJ4384 => ?_) ?_
 ·refine wp_block ?_
  refine s_loopJ (fun k4357 a w => ∃ (rw4349 : List (Row 2)) (data4350 : (List T_huff_packet)) (f4351 : Frag) (i4355 : Int) (j4356 : Int), Ss 58 [] [(0, .slice A4190 rw4349.length c4191), (2, .int .i64 m4197), (4, fnv 84 [] []), (10, .int .i64 i4355), (11, .int .i64 j4356)] H [p4189, f4351] F a w ∧ (Vec 112 (Row.v (sz := 2)) 2 A4190 rw4349 c4191 f4351) ∧ (RelL (R_huff_packet p4189) data4350 rw4349) ∧ (rw4349.length = rw4192.length) ∧ (slices_rotateCmpFunc_huff_packet__b6e1_b35e.l1 K m4197 k4357 data4350 i4355 j4356).wp kr kp) K ?_ ?_ ?_
  ·exact ⟨rw4192, data4188, f4194, i4201, j4202, hS.to [0, 1] (by kernel_rfl) ⟨rfl, rfl, rfl, rfl, rfl, trivial⟩, hV4195, hr4193, hz4200, hM⟩
  ·intro a w hI; obtain ⟨_, _, _, _, _, _, _, _, _, hM⟩ := hI; exact wp_fail hM
  ·intro k4357 a w hI J4376 hJ4376
   obtain ⟨rw4349, data4350, f4351, i4355, j4356, hS, hV4352, hr4353, hz4354, hM⟩ := hI
   rw [slices_rotateCmpFunc_huff_packet__b6e1_b35e.l1] at hM
   refine wp_seq <| wp_seq <| wp_region_list <| st1 hS (mv rfl) rfl fun a w hS => st1 hS (mv rfl) rfl fun a w hS => st1 hS (bin rfl rfl rfl) rfl fun a w hS => wpList_nil <| then_n <| s_cond hS rfl hM (fun hb4358 hM => ?_) (fun hb4358 hM => ?_)
   ·refine wp_skip ?_
    refine then_n <| wp_block <| wp_seq <| wp_region_list <| st1 hS (mv rfl) rfl fun a w hS => st1 hS (mv rfl) rfl fun a w hS => st1 hS (bin rfl rfl rfl) rfl fun a w hS => wpList_nil <| then_n <| s_cond hS rfl hM (fun hb4359 hM => ?_) (fun hb4359 hM => ?_)
    ·refine wp_seq ?_
     refine wp_region_list <| st1 hS (mv rfl) rfl fun a w hS => st1 hS (mv rfl) rfl fun a w hS => st1 hS (mv rfl) rfl fun a w hS => st1 hS (bin rfl rfl rfl) rfl fun a w hS => st1 hS (mv rfl) rfl fun a w hS => st1 hS (mv rfl) rfl fun a w hS => st1 hS (mv rfl) rfl fun a w hS => s_call hS rfl Tryd.call109 (slices_swapRangeCmpFunc_huff_packet__b6e1_b35e_c hG K data4350 (w64 (m4197 - i4355)) m4197 j4356 p4189 A4190 c4191 rw4349 f4351 hr4353 hV4352 (hS.st.part 2 [0, 1] (by kernel_rfl)) (wp_bind hM) (fun rw4360 data4361 f4362 w hM h4363 h4364 h4365 hst => s_back hS.ev hst.appF rfl fun hS => ?_))
     replace hS : Ss _ _ _ H [p4189, f4362] F _ _ := hS
     have hz4366 := Eq.trans h4365 hz4354
     replace hS := hS.re 0 (u := .slice A4190 rw4349.length c4191) (v := .slice A4190 rw4360.length c4191) rfl (by rw [h4365])
     replace hS := hS.re 24 (u := .slice A4190 rw4349.length c4191) (v := .slice A4190 rw4360.length c4191) rfl (by rw [h4365])
     refine wpList_nil <| then_n <| wp_region_list <| st1 hS (mv rfl) rfl fun a w hS => st1 hS (mv rfl) rfl fun a w hS => st1 hS (bin rfl rfl rfl) rfl fun a w hS => st1x (v := Value.int .i64) (x0 := (w64 (i4355 - j4356))) hS (asg rfl) rfl fun i4367 a w hz hS => ?_
     have hM := lt_to hz hM; clear hz
     refine wpList_nil <| blk_n (then_n ?_)
     exact hJ4376 _ _ ⟨rw4360, data4361, f4362, i4367, j4356, hS.to [0, 1] (by kernel_rfl) ⟨rfl, rfl, rfl, rfl, rfl, trivial⟩, h4363, h4364, hz4366, hM⟩
    ·refine wp_seq ?_
     refine wp_region_list <| st1 hS (mv rfl) rfl fun a w hS => st1 hS (mv rfl) rfl fun a w hS => st1 hS (mv rfl) rfl fun a w hS => st1 hS (bin rfl rfl rfl) rfl fun a w hS => st1 hS (mv rfl) rfl fun a w hS => st1 hS (mv rfl) rfl fun a w hS => st1 hS (bin rfl rfl rfl) rfl fun a w hS => st1 hS (mv rfl) rfl fun a w hS => st1 hS (bin rfl rfl rfl) rfl fun a w hS => st1 hS (mv rfl) rfl fun a w hS => st1 hS (mv rfl) rfl fun a w hS => s_call hS rfl Tryd.call109 (slices_swapRangeCmpFunc_huff_packet__b6e1_b35e_c hG K data4350 (w64 (m4197 - i4355)) (w64 ((w64 (m4197 + j4356)) - i4355)) i4355 p4189 A4190 c4191 rw4349 f4351 hr4353 hV4352 (hS.st.part 2 [0, 1] (by kernel_rfl)) (wp_bind hM) (fun rw4368 data4369 f4370 w hM h4371 h4372 h4373 hst => s_back hS.ev hst.appF rfl fun hS => ?_))
     replace hS : Ss _ _ _ H [p4189, f4370] F _ _ := hS
     have hz4374 := Eq.trans h4373 hz4354
     replace hS := hS.re 0 (u := .slice A4190 rw4349.length c4191) (v := .slice A4190 rw4368.length c4191) rfl (by rw [h4373])
     replace hS := hS.re 35 (u := .slice A4190 rw4349.length c4191) (v := .slice A4190 rw4368.length c4191) rfl (by rw [h4373])
     refine wpList_nil <| then_n <| wp_region_list <| st1 hS (mv rfl) rfl fun a w hS => st1 hS (mv rfl) rfl fun a w hS => st1 hS (bin rfl rfl rfl) rfl fun a w hS => st1x (v := Value.int .i64) (x0 := (w64 (j4356 - i4355))) hS (asg rfl) rfl fun j4375 a w hz hS => ?_
     have hM := lt_to hz hM; clear hz
     refine wpList_nil <| blk_n (then_n ?_)
     exact hJ4376 _ _ ⟨rw4368, data4369, f4370, i4355, j4375, hS.to [0, 1] (by kernel_rfl) ⟨rfl, rfl, rfl, rfl, rfl, trivial⟩, h4371, h4372, hz4374, hM⟩
   ·refine wp_exit ?_
    refine then_ex (then_ex (blk_same (then_n ?_)))
    exact hJ4384 _ _ ⟨rw4349, data4350, f4351, i4355, hS.to [0, 1] (by kernel_rfl) ⟨rfl, rfl, rfl, rfl, trivial⟩, hV4352, hr4353, hz4354, hM⟩
 ·intro a w hI
  obtain ⟨rw4377, data4378, f4379, i4383, hS, hV4380, hr4381, hz4382, hM⟩ := hI
  rw [slices_rotateCmpFunc_huff_packet__b6e1_b35e.j2] at hM
  refine wp_region_list <| st1 hS (mv rfl) rfl fun a w hS => st1 hS (mv rfl) rfl fun a w hS => st1 hS (mv rfl) rfl fun a w hS => st1 hS (bin rfl rfl rfl) rfl fun a w hS => st1 hS (mv rfl) rfl fun a w hS => st1 hS (mv rfl) rfl fun a w hS => st1 hS (mv rfl) rfl fun a w hS => s_call hS rfl Tryd.call109 (slices_swapRangeCmpFunc_huff_packet__b6e1_b35e_c hG K data4378 (w64 (m4197 - i4383)) m4197 i4383 p4189 A4190 c4191 rw4377 f4379 hr4381 hV4380 (hS.st.part 2 [0, 1] (by kernel_rfl)) (wp_bind hM) (fun rw4385 data4386 f4387 w hM h4388 h4389 h4390 hst => s_back hS.ev hst.appF rfl fun hS => ?_))
  replace hS : Ss _ _ _ H [p4189, f4387] F _ _ := hS
  have hz4391 := Eq.trans h4390 hz4382
  replace hS := hS.re 0 (u := .slice A4190 rw4377.length c4191) (v := .slice A4190 rw4385.length c4191) rfl (by rw [h4390])
  replace hS := hS.re 50 (u := .slice A4190 rw4377.length c4191) (v := .slice A4190 rw4385.length c4191) rfl (by rw [h4390])
  refine wpList_nil ?_
  exact s_end (rs := []) hS rfl rfl (hret rw4385 data4386 f4387 w (wp_ok hM) h4388 h4389 hz4391 (hS.st.pick [0, 1] (by kernel_rfl)))
end Go.TrydS
