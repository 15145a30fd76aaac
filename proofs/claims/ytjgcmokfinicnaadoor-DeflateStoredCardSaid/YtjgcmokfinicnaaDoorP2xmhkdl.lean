/- Printed by a program of mine: each Go function answers what its model answers; conditions: what each theorem asks of memory. -/
import Derived.Test.YtjgcmokfinicnaaDoorP1xpmlmm
set_option linter.unusedVariables false
set_option linter.unusedSimpArgs false
set_option maxRecDepth 100000
namespace Go.TrydS
open Go Go.Sl Go.Mo Go.Proofs
attribute [local irreducible] Res.wp
theorem slices_symMergeCmpFunc_huff_packet__b6e1_7e8b_cr (K : Nat) : ∀ (d : Nat) {H : Imm} {F : List Frag} {w : World} {R : Ending → World → Prop} {kr : (List T_huff_packet) → Prop} {kp : Value → Prop} (hG : Gl H) (data2519 : List T_huff_packet) (a_2527 : Int) (m2528 : Int) (b_2529 : Int) (p2520 : Frag) (A2521 : Option Addr) (c2522 : Nat) (rw2523 : List (Row 2)) (f2525 : Frag) (hr2524 : RelL (R_huff_packet p2520) data2519 rw2523) (hV2526 : Vec 112 (Row.v (sz := 2)) 2 A2521 rw2523 c2522 f2525)
    (hS : St w H [p2520, f2525] F) (hm : (slices_symMergeCmpFunc_huff_packet__b6e1_7e8b.r K d data2519 a_2527 m2528 b_2529).wp kr kp)
    (hret : ∀ (rw2854 : List (Row 2)) (data2855 : (List T_huff_packet)) (f2856 : Frag) (w : World), kr data2855 → (Vec 112 (Row.v (sz := 2)) 2 A2521 rw2854 c2522 f2856) → (RelL (R_huff_packet p2520) data2855 rw2854) → (rw2854.length = rw2523.length) → St w H [p2520, f2856] F → R (.returned (.tuple ⟨[]⟩)) w),
    Calls Tryd.prog 100 ⟨[.slice A2521 rw2523.length c2522, .int .i64 a_2527, .int .i64 m2528, .int .i64 b_2529, fnv 57 [] []]⟩ w R := by
  intro d
  induction d with
  | zero => intro H F w R kr kp hG data2519 a_2527 m2528 b_2529 p2520 A2521 c2522 rw2523 f2525 hr2524 hV2526 hS hm hret; exact (wp_fail hm).elim
  | succ d ih =>
  intro H F w R kr kp hG data2519 a_2527 m2528 b_2529 p2520 A2521 c2522 rw2523 f2525 hr2524 hV2526 hS hm hret
  have hM := hm; clear hm
  rw [slices_symMergeCmpFunc_huff_packet__b6e1_7e8b.r] at hM; rw [slices_symMergeCmpFunc_huff_packet__b6e1_7e8b.b] at hM
  refine enter Tryd.func100 rfl Tryd.ntmps100 rfl hS fun a w hS => ?_
  have hs2530 : ∀ q ∈ p2520, q ∈ p2520 := fun _ h => h
  have hz2531 : rw2523.length = rw2523.length := rfl
  refine seq_joinJ (fun a w => Ss 220 [] [(0, .slice A2521 rw2523.length c2522), (1, .int .i64 a_2527), (2, .int .i64 m2528), (3, .int .i64 b_2529), (4, fnv 57 [] [])] H [p2520, f2525] F a w ∧ (slices_symMergeCmpFunc_huff_packet__b6e1_7e8b.j4 K (slices_symMergeCmpFunc_huff_packet__b6e1_7e8b.r K d) data2519 a_2527 m2528 b_2529).wp kr kp) (fun J2656 hJ2656 => ?_) ?_
  ·refine wp_seq ?_
   refine wp_region_list <| st1 hS (mv rfl) rfl fun a w hS => st1 hS (mv rfl) rfl fun a w hS => st1 hS (bin rfl rfl rfl) rfl fun a w hS => st1 hS (bin rfl rfl rfl) rfl fun a w hS => wpList_nil <| then_n <| s_cond hS rfl hM (fun hb2532 hM => ?_) (fun hb2532 hM => ?_)
   ·refine wp_seq ?_
    refine wp_region_list <| st1 hS (mv rfl) rfl fun a w hS => st1 hS (asg rfl) rfl fun a w hS => wpList_nil <| then_n <| wp_seq <| wp_region_list <| st1 hS (mv rfl) rfl fun a w hS => st1 hS (asg rfl) rfl fun a w hS => wpList_nil <| then_n <| seq_joinJ (fun a w => ∃ (i2556 : Int), Ss 220 [] [(0, .slice A2521 rw2523.length c2522), (1, .int .i64 a_2527), (10, .int .i64 i2556)] H [p2520, f2525] F a w ∧ (slices_symMergeCmpFunc_huff_packet__b6e1_7e8b.j2 K (slices_symMergeCmpFunc_huff_packet__b6e1_7e8b.r K d) data2519 a_2527 i2556).wp kr kp) (fun J2557 hJ2557 => ?_) ?_
    ·refine wp_block ?_
     refine s_loopJ (fun k2535 a w => ∃ (i2533 : Int) (j2534 : Int), Ss 220 [] [(0, .slice A2521 rw2523.length c2522), (1, .int .i64 a_2527), (4, fnv 57 [] []), (10, .int .i64 i2533), (11, .int .i64 j2534)] H [p2520, f2525] F a w ∧ (slices_symMergeCmpFunc_huff_packet__b6e1_7e8b.l1 K (slices_symMergeCmpFunc_huff_packet__b6e1_7e8b.r K d) data2519 a_2527 k2535 i2533 j2534).wp kr kp) K ?_ ?_ ?_
     ·exact ⟨m2528, b_2529, hS.to [0, 1] (by kernel_rfl) ⟨rfl, rfl, rfl, rfl, rfl, trivial⟩, hM⟩
     ·intro a w hI; obtain ⟨_, _, _, hM⟩ := hI; exact wp_fail hM
     ·intro k2535 a w hI J2555 hJ2555
      obtain ⟨i2533, j2534, hS, hM⟩ := hI
      rw [slices_symMergeCmpFunc_huff_packet__b6e1_7e8b.l1] at hM
      refine wp_seq <| wp_seq <| wp_region_list <| st1 hS (mv rfl) rfl fun a w hS => st1 hS (mv rfl) rfl fun a w hS => st1 hS (bin rfl rfl rfl) rfl fun a w hS => wpList_nil <| then_n <| s_cond hS rfl hM (fun hb2536 hM => ?_) (fun hb2536 hM => ?_)
      ·refine wp_skip ?_
       refine then_n <| wp_block <| wp_seq <| wp_region_list <| st1 hS (mv rfl) rfl fun a w hS => st1 hS (mv rfl) rfl fun a w hS => st1 hS (bin rfl rfl rfl) rfl fun a w hS => st1 hS (cvi rfl Tryd.runUnderlying3 Tryd.runUnderlying39) rfl fun a w hS => st1 hS (shr rfl rfl rfl) rfl fun a w hS => st1 hS (cvi rfl Tryd.runUnderlying39 Tryd.runUnderlying3) rfl fun a w hS => st1x (v := Value.int .i64) (x0 := (wr .i64 (ishr .u64 (wr .u64 (w64 (i2533 + j2534))) (1 : Int)))) hS (asg rfl) rfl fun h2537 a w hz hS => ?_
       have hM := lt_to hz hM; clear hz
       refine wpList_nil <| then_n <| wp_seq ?_
       obtain ⟨hk2539, hM⟩ := wp_chk hM
       obtain ⟨A2540, c2541, hw2544, hp2542, hc2543⟩ := hr2524.get hk2539
       obtain ⟨hk2546, hM⟩ := wp_chk hM
       obtain ⟨A2547, c2548, hw2551, hp2549, hc2550⟩ := hr2524.get hk2546
       refine draw_begin (vals := [some (fnv 57 [] []), some (.slice A2521 rw2523.length c2522), some (.int .i64 h2537), some (slp A2521 (Int.toNat h2537 * 2)), some (.agg ⟨[.int .i64 ((rd data2519 h2537).often_), .slice A2540 ((rd data2519 h2537).symbols_).length c2541]⟩), some (.slice A2521 rw2523.length c2522), some (.int .i64 a_2527), some (slp A2521 (Int.toNat a_2527 * 2)), some (.agg ⟨[.int .i64 ((rd data2519 a_2527).often_), .slice A2547 ((rd data2519 a_2527).symbols_).length c2548]⟩), none, none]) hS mixed rfl ?_
       intro l w ho hcl hA hst
       refine phq hA hst ho hcl navail nmust 9 [0, 1, 2, 3, 4, 5, 6, 7, 8] rfl rfl rfl rfl rfl (by exact ⟨nR rfl rfl rfl rfl rfl (by exact ovE (mv rfl) rfl), nR rfl rfl rfl rfl rfl (by exact ovE (mv rfl) rfl), nR rfl rfl rfl rfl rfl (by exact ovE (mv rfl) rfl), nR rfl rfl rfl rfl rfl (by exact ovE (ixV rfl rfl Tryd.runUnderlying110 Tryd.sizeOf112 (hV2526.rd (i := 1) rfl) Row.len rfl (hr2524.inb hk2539)) rfl), nR rfl rfl rfl rfl rfl (by exact ovE (ovE (ldVA rfl (hV2526.rd (i := 1) rfl) Row.len (hr2524.inb hk2539) Tryd.isAgg112 Tryd.sizeOf112 rfl) (congrArg (fun l => Value.agg ⟨l⟩) hw2544)) rfl), nR rfl rfl rfl rfl rfl (by exact ovE (mv rfl) rfl), nR rfl rfl rfl rfl rfl (by exact ovE (mv rfl) rfl), nR rfl rfl rfl rfl rfl (by exact ovE (ixV rfl rfl Tryd.runUnderlying110 Tryd.sizeOf112 (hV2526.rd (i := 1) rfl) Row.len rfl (hr2524.inb hk2546)) rfl), nR rfl rfl rfl rfl rfl (by exact ovE (ovE (ldVA rfl (hV2526.rd (i := 1) rfl) Row.len (hr2524.inb hk2546) Tryd.isAgg112 Tryd.sizeOf112 rfl) (congrArg (fun l => Value.agg ⟨l⟩) hw2551)) rfl), trivial⟩) fun D l a w ho hcl hav hpre hm hE hk hA hst => ?_
       have hS := (Ss.mk hE hst).env2 (e' := [(40, fnv 57 [] []), (44, .agg ⟨[.int .i64 ((rd data2519 h2537).often_), .slice A2540 ((rd data2519 h2537).symbols_).length c2541]⟩), (48, .agg ⟨[.int .i64 ((rd data2519 a_2527).often_), .slice A2547 ((rd data2519 a_2527).symbols_).length c2548]⟩)]) ⟨rfl, rfl, rfl, trivial⟩
       refine op_of_nth rfl <| s_callV hS rfl rfl Tryd.call57 (huff_Lengths_2_c hG K (T_huff_packet.mk ((rd data2519 h2537).often_) ((rd data2519 h2537).symbols_)) (T_huff_packet.mk ((rd data2519 a_2527).often_) ((rd data2519 a_2527).symbols_)) A2540 c2541 A2547 c2548 (hp2542.rdF (i := 0) rfl) hc2543 (hp2549.rdF (i := 0) rfl) hc2550 (hS.st.part 0 [0, 1] (by kernel_rfl)) (wp_bind hM) (fun x2552 w hM  hst => s_back hS.ev hst.appF rfl fun hS => ?_))
       replace hS : Ss _ _ _ H [p2520, f2525] F _ _ := hS
       refine wpList_nil (then_n ?_)
       replace hst := hS.st
       obtain ⟨hcl, hmust, hav2, hA⟩ := dn (vals' := [some (fnv 57 [] []), some (.slice A2521 rw2523.length c2522), some (.int .i64 h2537), some (slp A2521 (Int.toNat h2537 * 2)), some (.agg ⟨[.int .i64 ((rd data2519 h2537).often_), .slice A2540 ((rd data2519 h2537).symbols_).length c2541]⟩), some (.slice A2521 rw2523.length c2522), some (.int .i64 a_2527), some (slp A2521 (Int.toNat a_2527 * 2)), some (.agg ⟨[.int .i64 ((rd data2519 a_2527).often_), .slice A2547 ((rd data2519 a_2527).symbols_).length c2548]⟩), some (.int .i64 x2552), some (.bool (decide (x2552 < (0 : Int))))]) 9 [(0, 9), (4, 9), (8, 9), (3, 4), (7, 8), (1, 3), (2, 3), (5, 7), (6, 7)] hA hcl hav hm hpre hk rfl rfl rfl rfl rfl rfl rfl
       clear hm hav
       refine phqE hA hst ho hcl hmust [10] rfl rfl rfl (by exact ⟨nR rfl rfl rfl rfl rfl (by exact ovE (bin rfl rfl rfl) rfl), trivial⟩) fun a w hS => ?_
       replace hS := hS.env2 (e' := [(0, .slice A2521 rw2523.length c2522), (1, .int .i64 a_2527), (4, fnv 57 [] []), (10, .int .i64 i2533), (11, .int .i64 j2534), (12, .int .i64 h2537), (50, .bool (decide (x2552 < (0 : Int))))]) ⟨rfl, rfl, rfl, rfl, rfl, rfl, rfl, trivial⟩
       refine then_n <| s_cond hS rfl hM (fun hb2553 hM => ?_) (fun hb2553 hM => ?_)
       ·refine wp_region_list ?_
        refine st1 hS (mv rfl) rfl fun a w hS => st1 hS (bin rfl rfl rfl) rfl fun a w hS => st1x (v := Value.int .i64) (x0 := (w64 (h2537 + (1 : Int)))) hS (asg rfl) rfl fun i2554 a w hz hS => ?_
        have hM := lt_to hz hM; clear hz
        refine wpList_nil <| blk_n (then_n ?_)
        exact hJ2555 _ _ ⟨i2554, j2534, hS.to [0, 1] (by kernel_rfl) ⟨rfl, rfl, rfl, rfl, rfl, trivial⟩, hM⟩
       ·refine wp_region_list ?_
        refine st1 hS (mv rfl) rfl fun a w hS => st1 hS (asg rfl) rfl fun a w hS => wpList_nil <| blk_n (then_n ?_)
        exact hJ2555 _ _ ⟨i2533, h2537, hS.to [0, 1] (by kernel_rfl) ⟨rfl, rfl, rfl, rfl, rfl, trivial⟩, hM⟩
      ·refine wp_exit ?_
       refine then_ex (then_ex (blk_same (then_n ?_)))
       exact hJ2557 _ _ ⟨i2533, hS.to [0, 1] (by kernel_rfl) ⟨rfl, rfl, rfl, trivial⟩, hM⟩
    ·intro a w hI
     obtain ⟨i2556, hS, hM⟩ := hI
     rw [slices_symMergeCmpFunc_huff_packet__b6e1_7e8b.j2] at hM
     refine wp_seq <| wp_seq <| wp_region_list <| st1 hS (mv rfl) rfl fun a w hS => st1 hS (asg rfl) rfl fun a w hS => wpList_nil <| then_n <| wp_block <| s_loopJ (fun k2614 a w => ∃ (rw2607 : List (Row 2)) (data2608 : (List T_huff_packet)) (f2609 : Frag) (k_2613 : Int), Ss 220 [] [(0, .slice A2521 rw2607.length c2522), (10, .int .i64 i2556), (13, .int .i64 k_2613)] H [p2520, f2609] F a w ∧ (Vec 112 (Row.v (sz := 2)) 2 A2521 rw2607 c2522 f2609) ∧ (RelL (R_huff_packet p2520) data2608 rw2607) ∧ (rw2607.length = rw2523.length) ∧ (slices_symMergeCmpFunc_huff_packet__b6e1_7e8b.l3 K (slices_symMergeCmpFunc_huff_packet__b6e1_7e8b.r K d) i2556 k2614 data2608 k_2613).wp kr kp) K ?_ ?_ ?_
     ·exact ⟨rw2523, data2519, f2525, a_2527, hS.to [0, 1] (by kernel_rfl) ⟨rfl, rfl, rfl, trivial⟩, hV2526, hr2524, hz2531, hM⟩
     ·intro a w hI; obtain ⟨_, _, _, _, _, _, _, _, hM⟩ := hI; exact wp_fail hM
     ·intro k2614 a w hI J2655 hJ2655
      obtain ⟨rw2607, data2608, f2609, k_2613, hS, hV2610, hr2611, hz2612, hM⟩ := hI
      rw [slices_symMergeCmpFunc_huff_packet__b6e1_7e8b.l3] at hM
      refine wp_seq <| wp_seq <| wp_region_list <| st1 hS (mv rfl) rfl fun a w hS => st1 hS (mv rfl) rfl fun a w hS => st1 hS (bin rfl rfl rfl) rfl fun a w hS => st1 hS (bin rfl rfl rfl) rfl fun a w hS => wpList_nil <| then_n <| s_cond hS rfl hM (fun hb2615 hM => ?_) (fun hb2615 hM => ?_)
      ·refine wp_skip ?_
       refine then_n <| wp_seq <| wp_block ?_
       obtain ⟨hk2617, hM⟩ := wp_chk hM
       obtain ⟨A2618, c2619, hw2622, hp2620, hc2621⟩ := hr2611.get hk2617
       obtain ⟨hk2624, hM⟩ := wp_chk hM
       obtain ⟨A2625, c2626, hw2629, hp2627, hc2628⟩ := hr2611.get hk2624
       refine draw_begin (vals := [some (.slice A2521 rw2607.length c2522), some (.int .i64 k_2613), some (.slice A2521 rw2607.length c2522), some (.int .i64 k_2613), some (.int .i64 (w64 (k_2613 + (1 : Int)))), some (.slice A2521 rw2607.length c2522), some (.int .i64 k_2613), some (.int .i64 (w64 (k_2613 + (1 : Int)))), some (slp A2521 (Int.toNat (w64 (k_2613 + (1 : Int))) * 2)), some (.agg ⟨[.int .i64 ((rd data2608 (w64 (k_2613 + (1 : Int)))).often_), .slice A2618 ((rd data2608 (w64 (k_2613 + (1 : Int)))).symbols_).length c2619]⟩), some (.slice A2521 rw2607.length c2522), some (.int .i64 k_2613), some (slp A2521 (Int.toNat k_2613 * 2)), some (.agg ⟨[.int .i64 ((rd data2608 k_2613).often_), .slice A2625 ((rd data2608 k_2613).symbols_).length c2626]⟩), some (slp A2521 (Int.toNat k_2613 * 2)), none, none, none]) hS mixed rfl ?_
       intro l w ho hcl hA hst
       refine phq hA hst ho hcl navail nmust 15 [0, 1, 2, 3, 4, 5, 6, 7, 8, 9, 10, 11, 12, 13, 14] rfl rfl rfl rfl rfl (by exact ⟨nR rfl rfl rfl rfl rfl (by exact ovE (mv rfl) rfl), nR rfl rfl rfl rfl rfl (by exact ovE (mv rfl) rfl), nR rfl rfl rfl rfl rfl (by exact ovE (mv rfl) rfl), nR rfl rfl rfl rfl rfl (by exact ovE (mv rfl) rfl), nR rfl rfl rfl rfl rfl (by exact ovE (bin rfl rfl rfl) rfl), nR rfl rfl rfl rfl rfl (by exact ovE (mv rfl) rfl), nR rfl rfl rfl rfl rfl (by exact ovE (mv rfl) rfl), nR rfl rfl rfl rfl rfl (by exact ovE (bin rfl rfl rfl) rfl), nR rfl rfl rfl rfl rfl (by exact ovE (ixV rfl rfl Tryd.runUnderlying110 Tryd.sizeOf112 (hV2610.rd (i := 1) rfl) Row.len rfl (hr2611.inb hk2617)) rfl), nR rfl rfl rfl rfl rfl (by exact ovE (ovE (ldVA rfl (hV2610.rd (i := 1) rfl) Row.len (hr2611.inb hk2617) Tryd.isAgg112 Tryd.sizeOf112 rfl) (congrArg (fun l => Value.agg ⟨l⟩) hw2622)) rfl), nR rfl rfl rfl rfl rfl (by exact ovE (mv rfl) rfl), nR rfl rfl rfl rfl rfl (by exact ovE (mv rfl) rfl), nR rfl rfl rfl rfl rfl (by exact ovE (ixV rfl rfl Tryd.runUnderlying110 Tryd.sizeOf112 (hV2610.rd (i := 1) rfl) Row.len rfl (hr2611.inb hk2624)) rfl), nR rfl rfl rfl rfl rfl (by exact ovE (ovE (ldVA rfl (hV2610.rd (i := 1) rfl) Row.len (hr2611.inb hk2624) Tryd.isAgg112 Tryd.sizeOf112 rfl) (congrArg (fun l => Value.agg ⟨l⟩) hw2629)) rfl), nR rfl rfl rfl rfl rfl (by exact ovE (ixV rfl rfl Tryd.runUnderlying110 Tryd.sizeOf112 (hV2610.rd (i := 1) rfl) Row.len rfl (hr2611.inb hk2624)) rfl), trivial⟩) fun D l a w ho hcl hav hpre hm hE hk hA hst => ?_
       have hS := (Ss.mk hE hst).env2 (e' := [(70, .agg ⟨[.int .i64 ((rd data2608 (w64 (k_2613 + (1 : Int)))).often_), .slice A2618 ((rd data2608 (w64 (k_2613 + (1 : Int)))).symbols_).length c2619]⟩), (75, slp A2521 (Int.toNat k_2613 * 2))]) ⟨rfl, rfl, trivial⟩
       refine op_of_nth rfl <| stVR (i := k_2613) (sz := 2) 1 (⟨[.int .i64 ((rd data2608 (w64 (k_2613 + (1 : Int)))).often_), .slice A2618 ((rd data2608 (w64 (k_2613 + (1 : Int)))).symbols_).length c2619], by simp, by simp [Value.oneCell']⟩ : Row 2) hS rfl rfl hV2610 rfl Tryd.sizeOf112 rfl (hr2611.inb hk2624) fun rw2636 w f2634 hz hV2635 hS => ?_
       obtain ⟨zs2637, hzm⟩ := nameE (data2608.set (Int.toNat k_2613) (T_huff_packet.mk ((rd data2608 (w64 (k_2613 + (1 : Int)))).often_) ((rd data2608 (w64 (k_2613 + (1 : Int)))).symbols_)))
       replace hM := lt_to hzm hM
       have hr2638 := RelL.set (x := (T_huff_packet.mk ((rd data2608 (w64 (k_2613 + (1 : Int)))).often_) ((rd data2608 (w64 (k_2613 + (1 : Int)))).symbols_))) (r := (⟨[.int .i64 ((rd data2608 (w64 (k_2613 + (1 : Int)))).often_), .slice A2618 ((rd data2608 (w64 (k_2613 + (1 : Int)))).symbols_).length c2619], by simp, by simp [Value.oneCell']⟩ : Row 2)) (Int.toNat k_2613) hr2611 (show R_huff_packet p2520 _ _ from ⟨A2618, c2619, rfl, hp2620, hc2621⟩)
       have hz2639 : rw2636.length = rw2607.length := by rw [hz]; exact List.length_set ..
       rw [← hz, ← hzm] at hr2638; clear hz hzm
       have hz2640 := Eq.trans hz2639 hz2612
       refine wpList_nil (then_n ?_)
       replace hst := hS.st
       obtain ⟨hk2642, hM⟩ := wp_chk hM
       obtain ⟨hcl, hmust, hav2, hA⟩ := dnN (vals' := [some (.slice A2521 rw2607.length c2522), some (.int .i64 k_2613), some (.slice A2521 rw2607.length c2522), some (.int .i64 k_2613), some (.int .i64 (w64 (k_2613 + (1 : Int)))), some (.slice A2521 rw2607.length c2522), some (.int .i64 k_2613), some (.int .i64 (w64 (k_2613 + (1 : Int)))), some (slp A2521 (Int.toNat (w64 (k_2613 + (1 : Int))) * 2)), some (.agg ⟨[.int .i64 ((rd data2608 (w64 (k_2613 + (1 : Int)))).often_), .slice A2618 ((rd data2608 (w64 (k_2613 + (1 : Int)))).symbols_).length c2619]⟩), some (.slice A2521 rw2607.length c2522), some (.int .i64 k_2613), some (slp A2521 (Int.toNat k_2613 * 2)), some (.agg ⟨[.int .i64 ((rd data2608 k_2613).often_), .slice A2625 ((rd data2608 k_2613).symbols_).length c2626]⟩), some (slp A2521 (Int.toNat k_2613 * 2)), some undef, some (slp A2521 (Int.toNat (w64 (k_2613 + (1 : Int))) * 2)), none]) 15 [(0, 15), (1, 15), (5, 15), (6, 15), (7, 15), (8, 15), (9, 15), (13, 15), (14, 15), (12, 13), (10, 12), (11, 12)] hA hcl hav hm hpre rfl rfl rfl rfl rfl
       clear hm hav
       refine phq hA hst ho hcl hav2 hmust 17 [2, 3, 4, 16] rfl rfl rfl rfl rfl (by exact ⟨nR rfl rfl rfl rfl rfl (by exact ovE (mv rfl) rfl), nR rfl rfl rfl rfl rfl (by exact ovE (mv rfl) rfl), nR rfl rfl rfl rfl rfl (by exact ovE (bin rfl rfl rfl) rfl), nR rfl rfl rfl rfl rfl (by exact ovE (ixV (lenx hz2639 rfl) rfl Tryd.runUnderlying110 Tryd.sizeOf112 (hV2635.rd (i := 1) rfl) Row.len rfl (hr2638.inb hk2642)) rfl), trivial⟩) fun D l a w ho hcl hav hpre hm hE hk hA hst => ?_
       have hS := (Ss.mk hE hst).env2 (e' := [(74, .agg ⟨[.int .i64 ((rd data2608 k_2613).often_), .slice A2625 ((rd data2608 k_2613).symbols_).length c2626]⟩), (76, slp A2521 (Int.toNat (w64 (k_2613 + (1 : Int))) * 2))]) ⟨rfl, rfl, trivial⟩
       refine op_of_nth rfl <| stVR (i := (w64 (k_2613 + (1 : Int)))) (sz := 2) 1 (⟨[.int .i64 ((rd data2608 k_2613).often_), .slice A2625 ((rd data2608 k_2613).symbols_).length c2626], by simp, by simp [Value.oneCell']⟩ : Row 2) hS rfl rfl hV2635 rfl Tryd.sizeOf112 rfl (hr2638.inb hk2642) fun rw2649 w f2647 hz hV2648 hS => ?_
       obtain ⟨zs2650, hzm⟩ := nameE (zs2637.set (Int.toNat (w64 (k_2613 + (1 : Int)))) (T_huff_packet.mk ((rd data2608 k_2613).often_) ((rd data2608 k_2613).symbols_)))
       replace hM := lt_to hzm hM
       have hr2651 := RelL.set (x := (T_huff_packet.mk ((rd data2608 k_2613).often_) ((rd data2608 k_2613).symbols_))) (r := (⟨[.int .i64 ((rd data2608 k_2613).often_), .slice A2625 ((rd data2608 k_2613).symbols_).length c2626], by simp, by simp [Value.oneCell']⟩ : Row 2)) (Int.toNat (w64 (k_2613 + (1 : Int)))) hr2638 (show R_huff_packet p2520 _ _ from ⟨A2625, c2626, rfl, hp2627, hc2628⟩)
       have hz2652 : rw2649.length = rw2636.length := by rw [hz]; exact List.length_set ..
       rw [← hz, ← hzm] at hr2651; clear hz hzm
       have hz2653 := Eq.trans hz2652 hz2640
       refine wpList_nil (then_n ?_)
       replace hst := hS.st
       obtain ⟨hcl, hmust, hav2, hA⟩ := dnN (vals' := [some (.slice A2521 rw2607.length c2522), some (.int .i64 k_2613), some (.slice A2521 rw2607.length c2522), some (.int .i64 k_2613), some (.int .i64 (w64 (k_2613 + (1 : Int)))), some (.slice A2521 rw2607.length c2522), some (.int .i64 k_2613), some (.int .i64 (w64 (k_2613 + (1 : Int)))), some (slp A2521 (Int.toNat (w64 (k_2613 + (1 : Int))) * 2)), some (.agg ⟨[.int .i64 ((rd data2608 (w64 (k_2613 + (1 : Int)))).often_), .slice A2618 ((rd data2608 (w64 (k_2613 + (1 : Int)))).symbols_).length c2619]⟩), some (.slice A2521 rw2607.length c2522), some (.int .i64 k_2613), some (slp A2521 (Int.toNat k_2613 * 2)), some (.agg ⟨[.int .i64 ((rd data2608 k_2613).often_), .slice A2625 ((rd data2608 k_2613).symbols_).length c2626]⟩), some (slp A2521 (Int.toNat k_2613 * 2)), some undef, some (slp A2521 (Int.toNat (w64 (k_2613 + (1 : Int))) * 2)), some undef]) 17 [(0, 17), (1, 17), (2, 17), (3, 17), (4, 17), (5, 17), (6, 17), (7, 17), (8, 17), (9, 17), (10, 17), (11, 17), (12, 17), (13, 17), (14, 17), (15, 17), (16, 17)] hA hcl hav hm hpre rfl rfl rfl rfl rfl
       clear hm hav
       refine phqE hA hst ho hcl hmust [] rfl rfl rfl trivial fun a w hS => ?_
       replace hS := hS.env2 (e' := [(0, .slice A2521 rw2649.length c2522), (10, .int .i64 i2556), (13, .int .i64 k_2613)]) ⟨(relk (u := .slice A2521 rw2607.length c2522) rfl (by rw [hz2652, hz2639])), rfl, rfl, trivial⟩
       refine blk_n (then_n ?_)
       refine wp_region_list <| st1 hS (mv rfl) rfl fun a w hS => st1 hS (bin rfl rfl rfl) rfl fun a w hS => st1x (v := Value.int .i64) (x0 := (w64 (k_2613 + (1 : Int)))) hS (asg rfl) rfl fun k_2654 a w hz hS => ?_
       have hM := lt_to hz hM; clear hz
       refine wpList_nil <| then_n ?_
       exact hJ2655 _ _ ⟨rw2649, zs2650, f2647, k_2654, hS.to [0, 1] (by kernel_rfl) ⟨rfl, rfl, rfl, trivial⟩, hV2648, hr2651, hz2653, hM⟩
      ·refine wp_exit ?_
       refine then_ex (then_ex (blk_same (then_n ?_)))
       refine wp_ret <| then_ret ?_
       exact s_ret (rs := []) hS rfl rfl (hret rw2607 data2608 f2609 w (wp_ok hM) hV2610 hr2611 hz2612 (hS.st.pick [0, 1] (by kernel_rfl)))
   ·refine wp_skip ?_
    refine then_n ?_
    exact hJ2656 _ _ ⟨hS.to [0, 1] (by kernel_rfl) ⟨rfl, rfl, rfl, rfl, rfl, trivial⟩, hM⟩
  ·intro a w hI
   obtain ⟨hS, hM⟩ := hI
   rw [slices_symMergeCmpFunc_huff_packet__b6e1_7e8b.j4] at hM
   refine seq_joinJ (fun a w => Ss 220 [] [(0, .slice A2521 rw2523.length c2522), (1, .int .i64 a_2527), (2, .int .i64 m2528), (3, .int .i64 b_2529), (4, fnv 57 [] [])] H [p2520, f2525] F a w ∧ (slices_symMergeCmpFunc_huff_packet__b6e1_7e8b.j8 K (slices_symMergeCmpFunc_huff_packet__b6e1_7e8b.r K d) data2519 a_2527 m2528 b_2529).wp kr kp) (fun J2781 hJ2781 => ?_) ?_
   ·refine wp_seq ?_
    refine wp_region_list <| st1 hS (mv rfl) rfl fun a w hS => st1 hS (mv rfl) rfl fun a w hS => st1 hS (bin rfl rfl rfl) rfl fun a w hS => st1 hS (bin rfl rfl rfl) rfl fun a w hS => wpList_nil <| then_n <| s_cond hS rfl hM (fun hb2657 hM => ?_) (fun hb2657 hM => ?_)
    ·refine wp_seq ?_
     refine wp_region_list <| st1 hS (mv rfl) rfl fun a w hS => st1 hS (asg rfl) rfl fun a w hS => wpList_nil <| then_n <| wp_seq <| wp_region_list <| st1 hS (mv rfl) rfl fun a w hS => st1 hS (asg rfl) rfl fun a w hS => wpList_nil <| then_n <| seq_joinJ (fun a w => ∃ (i2681 : Int), Ss 220 [] [(0, .slice A2521 rw2523.length c2522), (2, .int .i64 m2528), (14, .int .i64 i2681)] H [p2520, f2525] F a w ∧ (slices_symMergeCmpFunc_huff_packet__b6e1_7e8b.j6 K (slices_symMergeCmpFunc_huff_packet__b6e1_7e8b.r K d) data2519 m2528 i2681).wp kr kp) (fun J2682 hJ2682 => ?_) ?_
     ·refine wp_block ?_
      refine s_loopJ (fun k2660 a w => ∃ (i2658 : Int) (j2659 : Int), Ss 220 [] [(0, .slice A2521 rw2523.length c2522), (2, .int .i64 m2528), (4, fnv 57 [] []), (14, .int .i64 i2658), (15, .int .i64 j2659)] H [p2520, f2525] F a w ∧ (slices_symMergeCmpFunc_huff_packet__b6e1_7e8b.l5 K (slices_symMergeCmpFunc_huff_packet__b6e1_7e8b.r K d) data2519 m2528 k2660 i2658 j2659).wp kr kp) K ?_ ?_ ?_
      ·exact ⟨a_2527, m2528, hS.to [0, 1] (by kernel_rfl) ⟨rfl, rfl, rfl, rfl, rfl, trivial⟩, hM⟩
      ·intro a w hI; obtain ⟨_, _, _, hM⟩ := hI; exact wp_fail hM
      ·intro k2660 a w hI J2680 hJ2680
       obtain ⟨i2658, j2659, hS, hM⟩ := hI
       rw [slices_symMergeCmpFunc_huff_packet__b6e1_7e8b.l5] at hM
       refine wp_seq <| wp_seq <| wp_region_list <| st1 hS (mv rfl) rfl fun a w hS => st1 hS (mv rfl) rfl fun a w hS => st1 hS (bin rfl rfl rfl) rfl fun a w hS => wpList_nil <| then_n <| s_cond hS rfl hM (fun hb2661 hM => ?_) (fun hb2661 hM => ?_)
       ·refine wp_skip ?_
        refine then_n <| wp_block <| wp_seq <| wp_region_list <| st1 hS (mv rfl) rfl fun a w hS => st1 hS (mv rfl) rfl fun a w hS => st1 hS (bin rfl rfl rfl) rfl fun a w hS => st1 hS (cvi rfl Tryd.runUnderlying3 Tryd.runUnderlying39) rfl fun a w hS => st1 hS (shr rfl rfl rfl) rfl fun a w hS => st1 hS (cvi rfl Tryd.runUnderlying39 Tryd.runUnderlying3) rfl fun a w hS => st1x (v := Value.int .i64) (x0 := (wr .i64 (ishr .u64 (wr .u64 (w64 (i2658 + j2659))) (1 : Int)))) hS (asg rfl) rfl fun h2662 a w hz hS => ?_
        have hM := lt_to hz hM; clear hz
        refine wpList_nil <| then_n <| wp_seq ?_
        obtain ⟨hk2664, hM⟩ := wp_chk hM
        obtain ⟨A2665, c2666, hw2669, hp2667, hc2668⟩ := hr2524.get hk2664
        obtain ⟨hk2671, hM⟩ := wp_chk hM
        obtain ⟨A2672, c2673, hw2676, hp2674, hc2675⟩ := hr2524.get hk2671
        refine draw_begin (vals := [some (fnv 57 [] []), some (.slice A2521 rw2523.length c2522), some (.int .i64 m2528), some (slp A2521 (Int.toNat m2528 * 2)), some (.agg ⟨[.int .i64 ((rd data2519 m2528).often_), .slice A2665 ((rd data2519 m2528).symbols_).length c2666]⟩), some (.slice A2521 rw2523.length c2522), some (.int .i64 h2662), some (slp A2521 (Int.toNat h2662 * 2)), some (.agg ⟨[.int .i64 ((rd data2519 h2662).often_), .slice A2672 ((rd data2519 h2662).symbols_).length c2673]⟩), none, none, none]) hS mixed rfl ?_
        intro l w ho hcl hA hst
        refine phq hA hst ho hcl navail nmust 9 [0, 1, 2, 3, 4, 5, 6, 7, 8] rfl rfl rfl rfl rfl (by exact ⟨nR rfl rfl rfl rfl rfl (by exact ovE (mv rfl) rfl), nR rfl rfl rfl rfl rfl (by exact ovE (mv rfl) rfl), nR rfl rfl rfl rfl rfl (by exact ovE (mv rfl) rfl), nR rfl rfl rfl rfl rfl (by exact ovE (ixV rfl rfl Tryd.runUnderlying110 Tryd.sizeOf112 (hV2526.rd (i := 1) rfl) Row.len rfl (hr2524.inb hk2664)) rfl), nR rfl rfl rfl rfl rfl (by exact ovE (ovE (ldVA rfl (hV2526.rd (i := 1) rfl) Row.len (hr2524.inb hk2664) Tryd.isAgg112 Tryd.sizeOf112 rfl) (congrArg (fun l => Value.agg ⟨l⟩) hw2669)) rfl), nR rfl rfl rfl rfl rfl (by exact ovE (mv rfl) rfl), nR rfl rfl rfl rfl rfl (by exact ovE (mv rfl) rfl), nR rfl rfl rfl rfl rfl (by exact ovE (ixV rfl rfl Tryd.runUnderlying110 Tryd.sizeOf112 (hV2526.rd (i := 1) rfl) Row.len rfl (hr2524.inb hk2671)) rfl), nR rfl rfl rfl rfl rfl (by exact ovE (ovE (ldVA rfl (hV2526.rd (i := 1) rfl) Row.len (hr2524.inb hk2671) Tryd.isAgg112 Tryd.sizeOf112 rfl) (congrArg (fun l => Value.agg ⟨l⟩) hw2676)) rfl), trivial⟩) fun D l a w ho hcl hav hpre hm hE hk hA hst => ?_
        have hS := (Ss.mk hE hst).env2 (e' := [(92, fnv 57 [] []), (96, .agg ⟨[.int .i64 ((rd data2519 m2528).often_), .slice A2665 ((rd data2519 m2528).symbols_).length c2666]⟩), (100, .agg ⟨[.int .i64 ((rd data2519 h2662).often_), .slice A2672 ((rd data2519 h2662).symbols_).length c2673]⟩)]) ⟨rfl, rfl, rfl, trivial⟩
        refine op_of_nth rfl <| s_callV hS rfl rfl Tryd.call57 (huff_Lengths_2_c hG K (T_huff_packet.mk ((rd data2519 m2528).often_) ((rd data2519 m2528).symbols_)) (T_huff_packet.mk ((rd data2519 h2662).often_) ((rd data2519 h2662).symbols_)) A2665 c2666 A2672 c2673 (hp2667.rdF (i := 0) rfl) hc2668 (hp2674.rdF (i := 0) rfl) hc2675 (hS.st.part 0 [0, 1] (by kernel_rfl)) (wp_bind hM) (fun x2677 w hM  hst => s_back hS.ev hst.appF rfl fun hS => ?_))
        replace hS : Ss _ _ _ H [p2520, f2525] F _ _ := hS
        refine wpList_nil (then_n ?_)
        replace hst := hS.st
        obtain ⟨hcl, hmust, hav2, hA⟩ := dn (vals' := [some (fnv 57 [] []), some (.slice A2521 rw2523.length c2522), some (.int .i64 m2528), some (slp A2521 (Int.toNat m2528 * 2)), some (.agg ⟨[.int .i64 ((rd data2519 m2528).often_), .slice A2665 ((rd data2519 m2528).symbols_).length c2666]⟩), some (.slice A2521 rw2523.length c2522), some (.int .i64 h2662), some (slp A2521 (Int.toNat h2662 * 2)), some (.agg ⟨[.int .i64 ((rd data2519 h2662).often_), .slice A2672 ((rd data2519 h2662).symbols_).length c2673]⟩), some (.int .i64 x2677), some (.bool (decide (x2677 < (0 : Int)))), some (.bool (!(decide (x2677 < (0 : Int)))))]) 9 [(0, 9), (4, 9), (8, 9), (3, 4), (7, 8), (1, 3), (2, 3), (5, 7), (6, 7)] hA hcl hav hm hpre hk rfl rfl rfl rfl rfl rfl rfl
        clear hm hav
        refine phqE hA hst ho hcl hmust [10, 11] rfl rfl rfl (by exact ⟨nR rfl rfl rfl rfl rfl (by exact ovE (bin rfl rfl rfl) rfl), nR rfl rfl rfl rfl rfl (by exact ovE (un rfl rfl) rfl), trivial⟩) fun a w hS => ?_
        replace hS := hS.env2 (e' := [(0, .slice A2521 rw2523.length c2522), (2, .int .i64 m2528), (4, fnv 57 [] []), (14, .int .i64 i2658), (15, .int .i64 j2659), (16, .int .i64 h2662), (103, .bool (!(decide (x2677 < (0 : Int)))))]) ⟨rfl, rfl, rfl, rfl, rfl, rfl, rfl, trivial⟩
        refine then_n <| s_cond hS rfl hM (fun hb2678 hM => ?_) (fun hb2678 hM => ?_)
        ·refine wp_region_list ?_
         refine st1 hS (mv rfl) rfl fun a w hS => st1 hS (bin rfl rfl rfl) rfl fun a w hS => st1x (v := Value.int .i64) (x0 := (w64 (h2662 + (1 : Int)))) hS (asg rfl) rfl fun i2679 a w hz hS => ?_
         have hM := lt_to hz hM; clear hz
         refine wpList_nil <| blk_n (then_n ?_)
         exact hJ2680 _ _ ⟨i2679, j2659, hS.to [0, 1] (by kernel_rfl) ⟨rfl, rfl, rfl, rfl, rfl, trivial⟩, hM⟩
        ·refine wp_region_list ?_
         refine st1 hS (mv rfl) rfl fun a w hS => st1 hS (asg rfl) rfl fun a w hS => wpList_nil <| blk_n (then_n ?_)
         exact hJ2680 _ _ ⟨i2658, h2662, hS.to [0, 1] (by kernel_rfl) ⟨rfl, rfl, rfl, rfl, rfl, trivial⟩, hM⟩
       ·refine wp_exit ?_
        refine then_ex (then_ex (blk_same (then_n ?_)))
        exact hJ2682 _ _ ⟨i2658, hS.to [0, 1] (by kernel_rfl) ⟨rfl, rfl, rfl, trivial⟩, hM⟩
     ·intro a w hI
      obtain ⟨i2681, hS, hM⟩ := hI
      rw [slices_symMergeCmpFunc_huff_packet__b6e1_7e8b.j6] at hM
      refine wp_seq <| wp_seq <| wp_region_list <| st1 hS (mv rfl) rfl fun a w hS => st1 hS (asg rfl) rfl fun a w hS => wpList_nil <| then_n <| wp_block <| s_loopJ (fun k2739 a w => ∃ (rw2732 : List (Row 2)) (data2733 : (List T_huff_packet)) (f2734 : Frag) (k_2738 : Int), Ss 220 [] [(0, .slice A2521 rw2732.length c2522), (14, .int .i64 i2681), (17, .int .i64 k_2738)] H [p2520, f2734] F a w ∧ (Vec 112 (Row.v (sz := 2)) 2 A2521 rw2732 c2522 f2734) ∧ (RelL (R_huff_packet p2520) data2733 rw2732) ∧ (rw2732.length = rw2523.length) ∧ (slices_symMergeCmpFunc_huff_packet__b6e1_7e8b.l7 K (slices_symMergeCmpFunc_huff_packet__b6e1_7e8b.r K d) i2681 k2739 data2733 k_2738).wp kr kp) K ?_ ?_ ?_
      ·exact ⟨rw2523, data2519, f2525, m2528, hS.to [0, 1] (by kernel_rfl) ⟨rfl, rfl, rfl, trivial⟩, hV2526, hr2524, hz2531, hM⟩
      ·intro a w hI; obtain ⟨_, _, _, _, _, _, _, _, hM⟩ := hI; exact wp_fail hM
      ·intro k2739 a w hI J2780 hJ2780
       obtain ⟨rw2732, data2733, f2734, k_2738, hS, hV2735, hr2736, hz2737, hM⟩ := hI
       rw [slices_symMergeCmpFunc_huff_packet__b6e1_7e8b.l7] at hM
       refine wp_seq <| wp_seq <| wp_region_list <| st1 hS (mv rfl) rfl fun a w hS => st1 hS (mv rfl) rfl fun a w hS => st1 hS (bin rfl rfl rfl) rfl fun a w hS => wpList_nil <| then_n <| s_cond hS rfl hM (fun hb2740 hM => ?_) (fun hb2740 hM => ?_)
       ·refine wp_skip ?_
        refine then_n <| wp_seq <| wp_block ?_
        obtain ⟨hk2742, hM⟩ := wp_chk hM
        obtain ⟨A2743, c2744, hw2747, hp2745, hc2746⟩ := hr2736.get hk2742
        obtain ⟨hk2749, hM⟩ := wp_chk hM
        obtain ⟨A2750, c2751, hw2754, hp2752, hc2753⟩ := hr2736.get hk2749
        refine draw_begin (vals := [some (.slice A2521 rw2732.length c2522), some (.int .i64 k_2738), some (.slice A2521 rw2732.length c2522), some (.int .i64 k_2738), some (.int .i64 (w64 (k_2738 - (1 : Int)))), some (.slice A2521 rw2732.length c2522), some (.int .i64 k_2738), some (.int .i64 (w64 (k_2738 - (1 : Int)))), some (slp A2521 (Int.toNat (w64 (k_2738 - (1 : Int))) * 2)), some (.agg ⟨[.int .i64 ((rd data2733 (w64 (k_2738 - (1 : Int)))).often_), .slice A2743 ((rd data2733 (w64 (k_2738 - (1 : Int)))).symbols_).length c2744]⟩), some (.slice A2521 rw2732.length c2522), some (.int .i64 k_2738), some (slp A2521 (Int.toNat k_2738 * 2)), some (.agg ⟨[.int .i64 ((rd data2733 k_2738).often_), .slice A2750 ((rd data2733 k_2738).symbols_).length c2751]⟩), some (slp A2521 (Int.toNat k_2738 * 2)), none, none, none]) hS mixed rfl ?_
        intro l w ho hcl hA hst
        refine phq hA hst ho hcl navail nmust 15 [0, 1, 2, 3, 4, 5, 6, 7, 8, 9, 10, 11, 12, 13, 14] rfl rfl rfl rfl rfl (by exact ⟨nR rfl rfl rfl rfl rfl (by exact ovE (mv rfl) rfl), nR rfl rfl rfl rfl rfl (by exact ovE (mv rfl) rfl), nR rfl rfl rfl rfl rfl (by exact ovE (mv rfl) rfl), nR rfl rfl rfl rfl rfl (by exact ovE (mv rfl) rfl), nR rfl rfl rfl rfl rfl (by exact ovE (bin rfl rfl rfl) rfl), nR rfl rfl rfl rfl rfl (by exact ovE (mv rfl) rfl), nR rfl rfl rfl rfl rfl (by exact ovE (mv rfl) rfl), nR rfl rfl rfl rfl rfl (by exact ovE (bin rfl rfl rfl) rfl), nR rfl rfl rfl rfl rfl (by exact ovE (ixV rfl rfl Tryd.runUnderlying110 Tryd.sizeOf112 (hV2735.rd (i := 1) rfl) Row.len rfl (hr2736.inb hk2742)) rfl), nR rfl rfl rfl rfl rfl (by exact ovE (ovE (ldVA rfl (hV2735.rd (i := 1) rfl) Row.len (hr2736.inb hk2742) Tryd.isAgg112 Tryd.sizeOf112 rfl) (congrArg (fun l => Value.agg ⟨l⟩) hw2747)) rfl), nR rfl rfl rfl rfl rfl (by exact ovE (mv rfl) rfl), nR rfl rfl rfl rfl rfl (by exact ovE (mv rfl) rfl), nR rfl rfl rfl rfl rfl (by exact ovE (ixV rfl rfl Tryd.runUnderlying110 Tryd.sizeOf112 (hV2735.rd (i := 1) rfl) Row.len rfl (hr2736.inb hk2749)) rfl), nR rfl rfl rfl rfl rfl (by exact ovE (ovE (ldVA rfl (hV2735.rd (i := 1) rfl) Row.len (hr2736.inb hk2749) Tryd.isAgg112 Tryd.sizeOf112 rfl) (congrArg (fun l => Value.agg ⟨l⟩) hw2754)) rfl), nR rfl rfl rfl rfl rfl (by exact ovE (ixV rfl rfl Tryd.runUnderlying110 Tryd.sizeOf112 (hV2735.rd (i := 1) rfl) Row.len rfl (hr2736.inb hk2749)) rfl), trivial⟩) fun D l a w ho hcl hav hpre hm hE hk hA hst => ?_
        have hS := (Ss.mk hE hst).env2 (e' := [(122, .agg ⟨[.int .i64 ((rd data2733 (w64 (k_2738 - (1 : Int)))).often_), .slice A2743 ((rd data2733 (w64 (k_2738 - (1 : Int)))).symbols_).length c2744]⟩), (127, slp A2521 (Int.toNat k_2738 * 2))]) ⟨rfl, rfl, trivial⟩
        refine op_of_nth rfl <| stVR (i := k_2738) (sz := 2) 1 (⟨[.int .i64 ((rd data2733 (w64 (k_2738 - (1 : Int)))).often_), .slice A2743 ((rd data2733 (w64 (k_2738 - (1 : Int)))).symbols_).length c2744], by simp, by simp [Value.oneCell']⟩ : Row 2) hS rfl rfl hV2735 rfl Tryd.sizeOf112 rfl (hr2736.inb hk2749) fun rw2761 w f2759 hz hV2760 hS => ?_
        obtain ⟨zs2762, hzm⟩ := nameE (data2733.set (Int.toNat k_2738) (T_huff_packet.mk ((rd data2733 (w64 (k_2738 - (1 : Int)))).often_) ((rd data2733 (w64 (k_2738 - (1 : Int)))).symbols_)))
        replace hM := lt_to hzm hM
        have hr2763 := RelL.set (x := (T_huff_packet.mk ((rd data2733 (w64 (k_2738 - (1 : Int)))).often_) ((rd data2733 (w64 (k_2738 - (1 : Int)))).symbols_))) (r := (⟨[.int .i64 ((rd data2733 (w64 (k_2738 - (1 : Int)))).often_), .slice A2743 ((rd data2733 (w64 (k_2738 - (1 : Int)))).symbols_).length c2744], by simp, by simp [Value.oneCell']⟩ : Row 2)) (Int.toNat k_2738) hr2736 (show R_huff_packet p2520 _ _ from ⟨A2743, c2744, rfl, hp2745, hc2746⟩)
        have hz2764 : rw2761.length = rw2732.length := by rw [hz]; exact List.length_set ..
        rw [← hz, ← hzm] at hr2763; clear hz hzm
        have hz2765 := Eq.trans hz2764 hz2737
        refine wpList_nil (then_n ?_)
        replace hst := hS.st
        obtain ⟨hk2767, hM⟩ := wp_chk hM
        obtain ⟨hcl, hmust, hav2, hA⟩ := dnN (vals' := [some (.slice A2521 rw2732.length c2522), some (.int .i64 k_2738), some (.slice A2521 rw2732.length c2522), some (.int .i64 k_2738), some (.int .i64 (w64 (k_2738 - (1 : Int)))), some (.slice A2521 rw2732.length c2522), some (.int .i64 k_2738), some (.int .i64 (w64 (k_2738 - (1 : Int)))), some (slp A2521 (Int.toNat (w64 (k_2738 - (1 : Int))) * 2)), some (.agg ⟨[.int .i64 ((rd data2733 (w64 (k_2738 - (1 : Int)))).often_), .slice A2743 ((rd data2733 (w64 (k_2738 - (1 : Int)))).symbols_).length c2744]⟩), some (.slice A2521 rw2732.length c2522), some (.int .i64 k_2738), some (slp A2521 (Int.toNat k_2738 * 2)), some (.agg ⟨[.int .i64 ((rd data2733 k_2738).often_), .slice A2750 ((rd data2733 k_2738).symbols_).length c2751]⟩), some (slp A2521 (Int.toNat k_2738 * 2)), some undef, some (slp A2521 (Int.toNat (w64 (k_2738 - (1 : Int))) * 2)), none]) 15 [(0, 15), (1, 15), (5, 15), (6, 15), (7, 15), (8, 15), (9, 15), (13, 15), (14, 15), (12, 13), (10, 12), (11, 12)] hA hcl hav hm hpre rfl rfl rfl rfl rfl
        clear hm hav
        refine phq hA hst ho hcl hav2 hmust 17 [2, 3, 4, 16] rfl rfl rfl rfl rfl (by exact ⟨nR rfl rfl rfl rfl rfl (by exact ovE (mv rfl) rfl), nR rfl rfl rfl rfl rfl (by exact ovE (mv rfl) rfl), nR rfl rfl rfl rfl rfl (by exact ovE (bin rfl rfl rfl) rfl), nR rfl rfl rfl rfl rfl (by exact ovE (ixV (lenx hz2764 rfl) rfl Tryd.runUnderlying110 Tryd.sizeOf112 (hV2760.rd (i := 1) rfl) Row.len rfl (hr2763.inb hk2767)) rfl), trivial⟩) fun D l a w ho hcl hav hpre hm hE hk hA hst => ?_
        have hS := (Ss.mk hE hst).env2 (e' := [(126, .agg ⟨[.int .i64 ((rd data2733 k_2738).often_), .slice A2750 ((rd data2733 k_2738).symbols_).length c2751]⟩), (128, slp A2521 (Int.toNat (w64 (k_2738 - (1 : Int))) * 2))]) ⟨rfl, rfl, trivial⟩
        refine op_of_nth rfl <| stVR (i := (w64 (k_2738 - (1 : Int)))) (sz := 2) 1 (⟨[.int .i64 ((rd data2733 k_2738).often_), .slice A2750 ((rd data2733 k_2738).symbols_).length c2751], by simp, by simp [Value.oneCell']⟩ : Row 2) hS rfl rfl hV2760 rfl Tryd.sizeOf112 rfl (hr2763.inb hk2767) fun rw2774 w f2772 hz hV2773 hS => ?_
        obtain ⟨zs2775, hzm⟩ := nameE (zs2762.set (Int.toNat (w64 (k_2738 - (1 : Int)))) (T_huff_packet.mk ((rd data2733 k_2738).often_) ((rd data2733 k_2738).symbols_)))
        replace hM := lt_to hzm hM
        have hr2776 := RelL.set (x := (T_huff_packet.mk ((rd data2733 k_2738).often_) ((rd data2733 k_2738).symbols_))) (r := (⟨[.int .i64 ((rd data2733 k_2738).often_), .slice A2750 ((rd data2733 k_2738).symbols_).length c2751], by simp, by simp [Value.oneCell']⟩ : Row 2)) (Int.toNat (w64 (k_2738 - (1 : Int)))) hr2763 (show R_huff_packet p2520 _ _ from ⟨A2750, c2751, rfl, hp2752, hc2753⟩)
        have hz2777 : rw2774.length = rw2761.length := by rw [hz]; exact List.length_set ..
        rw [← hz, ← hzm] at hr2776; clear hz hzm
        have hz2778 := Eq.trans hz2777 hz2765
        refine wpList_nil (then_n ?_)
        replace hst := hS.st
        obtain ⟨hcl, hmust, hav2, hA⟩ := dnN (vals' := [some (.slice A2521 rw2732.length c2522), some (.int .i64 k_2738), some (.slice A2521 rw2732.length c2522), some (.int .i64 k_2738), some (.int .i64 (w64 (k_2738 - (1 : Int)))), some (.slice A2521 rw2732.length c2522), some (.int .i64 k_2738), some (.int .i64 (w64 (k_2738 - (1 : Int)))), some (slp A2521 (Int.toNat (w64 (k_2738 - (1 : Int))) * 2)), some (.agg ⟨[.int .i64 ((rd data2733 (w64 (k_2738 - (1 : Int)))).often_), .slice A2743 ((rd data2733 (w64 (k_2738 - (1 : Int)))).symbols_).length c2744]⟩), some (.slice A2521 rw2732.length c2522), some (.int .i64 k_2738), some (slp A2521 (Int.toNat k_2738 * 2)), some (.agg ⟨[.int .i64 ((rd data2733 k_2738).often_), .slice A2750 ((rd data2733 k_2738).symbols_).length c2751]⟩), some (slp A2521 (Int.toNat k_2738 * 2)), some undef, some (slp A2521 (Int.toNat (w64 (k_2738 - (1 : Int))) * 2)), some undef]) 17 [(0, 17), (1, 17), (2, 17), (3, 17), (4, 17), (5, 17), (6, 17), (7, 17), (8, 17), (9, 17), (10, 17), (11, 17), (12, 17), (13, 17), (14, 17), (15, 17), (16, 17)] hA hcl hav hm hpre rfl rfl rfl rfl rfl
        clear hm hav
        refine phqE hA hst ho hcl hmust [] rfl rfl rfl trivial fun a w hS => ?_
        replace hS := hS.env2 (e' := [(0, .slice A2521 rw2774.length c2522), (14, .int .i64 i2681), (17, .int .i64 k_2738)]) ⟨(relk (u := .slice A2521 rw2732.length c2522) rfl (by rw [hz2777, hz2764])), rfl, rfl, trivial⟩
        refine blk_n (then_n ?_)
        refine wp_region_list <| st1 hS (mv rfl) rfl fun a w hS => st1 hS (bin rfl rfl rfl) rfl fun a w hS => st1x (v := Value.int .i64) (x0 := (w64 (k_2738 - (1 : Int)))) hS (asg rfl) rfl fun k_2779 a w hz hS => ?_
        have hM := lt_to hz hM; clear hz
        refine wpList_nil <| then_n ?_
        exact hJ2780 _ _ ⟨rw2774, zs2775, f2772, k_2779, hS.to [0, 1] (by kernel_rfl) ⟨rfl, rfl, rfl, trivial⟩, hV2773, hr2776, hz2778, hM⟩
       ·refine wp_exit ?_
        refine then_ex (then_ex (blk_same (then_n ?_)))
        refine wp_ret <| then_ret ?_
        exact s_ret (rs := []) hS rfl rfl (hret rw2732 data2733 f2734 w (wp_ok hM) hV2735 hr2736 hz2737 (hS.st.pick [0, 1] (by kernel_rfl)))
    ·refine wp_skip ?_
     refine then_n ?_
     exact hJ2781 _ _ ⟨hS.to [0, 1] (by kernel_rfl) ⟨rfl, rfl, rfl, rfl, rfl, trivial⟩, hM⟩
   ·intro a w hI
    obtain ⟨hS, hM⟩ := hI
    rw [slices_symMergeCmpFunc_huff_packet__b6e1_7e8b.j8] at hM
    refine wp_seq <| wp_region_list <| st1 hS (mv rfl) rfl fun a w hS => st1 hS (mv rfl) rfl fun a w hS => st1 hS (bin rfl rfl rfl) rfl fun a w hS => st1 hS (cvi rfl Tryd.runUnderlying3 Tryd.runUnderlying39) rfl fun a w hS => st1 hS (shr rfl rfl rfl) rfl fun a w hS => st1 hS (cvi rfl Tryd.runUnderlying39 Tryd.runUnderlying3) rfl fun a w hS => st1x (v := Value.int .i64) (x0 := (wr .i64 (ishr .u64 (wr .u64 (w64 (a_2527 + b_2529))) (1 : Int)))) hS (asg rfl) rfl fun mid2782 a w hz hS => ?_
    have hM := lt_to hz hM; clear hz
    refine wpList_nil <| then_n <| wp_seq <| wp_region_list <| st1 hS (mv rfl) rfl fun a w hS => st1 hS (mv rfl) rfl fun a w hS => st1 hS (bin rfl rfl rfl) rfl fun a w hS => st1x (v := Value.int .i64) (x0 := (w64 (mid2782 + m2528))) hS (asg rfl) rfl fun n_2783 a w hz hS => ?_
    have hM := lt_to hz hM; clear hz
    refine wpList_nil <| then_n <| wp_seq <| wp_region_list <| st1 hS (asg rfl) rfl fun a w hS => st1 hS (asg rfl) rfl fun a w hS => wpList_nil <| then_n <| seq_joinJ (fun a w => ∃ (start2786 : Int) (r2787 : Int), Ss 220 [] [(0, .slice A2521 rw2523.length c2522), (1, .int .i64 a_2527), (2, .int .i64 m2528), (3, .int .i64 b_2529), (4, fnv 57 [] []), (18, .int .i64 mid2782), (19, .int .i64 n_2783), (20, .int .i64 start2786), (21, .int .i64 r2787)] H [p2520, f2525] F a w ∧ (slices_symMergeCmpFunc_huff_packet__b6e1_7e8b.j9 K (slices_symMergeCmpFunc_huff_packet__b6e1_7e8b.r K d) data2519 a_2527 m2528 b_2529 mid2782 n_2783 start2786 r2787).wp kr kp) (fun J2788 hJ2788 => ?_) ?_
    ·refine wp_seq ?_
     refine wp_region_list <| st1 hS (mv rfl) rfl fun a w hS => st1 hS (mv rfl) rfl fun a w hS => st1 hS (bin rfl rfl rfl) rfl fun a w hS => wpList_nil <| then_n <| s_cond hS rfl hM (fun hb2784 hM => ?_) (fun hb2784 hM => ?_)
     ·refine wp_seq ?_
      refine wp_region_list <| st1 hS (mv rfl) rfl fun a w hS => st1 hS (mv rfl) rfl fun a w hS => st1 hS (bin rfl rfl rfl) rfl fun a w hS => st1x (v := Value.int .i64) (x0 := (w64 (n_2783 - b_2529))) hS (asg rfl) rfl fun start2785 a w hz hS => ?_
      have hM := lt_to hz hM; clear hz
      refine wpList_nil <| then_n <| wp_region_list <| st1 hS (mv rfl) rfl fun a w hS => st1 hS (asg rfl) rfl fun a w hS => wpList_nil <| then_n ?_
      exact hJ2788 _ _ ⟨start2785, mid2782, hS.to [0, 1] (by kernel_rfl) ⟨rfl, rfl, rfl, rfl, rfl, rfl, rfl, rfl, rfl, trivial⟩, hM⟩
     ·refine wp_seq ?_
      refine wp_region_list <| st1 hS (mv rfl) rfl fun a w hS => st1 hS (asg rfl) rfl fun a w hS => wpList_nil <| then_n <| wp_region_list <| st1 hS (mv rfl) rfl fun a w hS => st1 hS (asg rfl) rfl fun a w hS => wpList_nil <| then_n ?_
      exact hJ2788 _ _ ⟨a_2527, m2528, hS.to [0, 1] (by kernel_rfl) ⟨rfl, rfl, rfl, rfl, rfl, rfl, rfl, rfl, rfl, trivial⟩, hM⟩
    ·intro a w hI
     obtain ⟨start2786, r2787, hS, hM⟩ := hI
     rw [slices_symMergeCmpFunc_huff_packet__b6e1_7e8b.j9] at hM
     refine wp_seq <| wp_region_list <| st1 hS (mv rfl) rfl fun a w hS => st1 hS (bin rfl rfl rfl) rfl fun a w hS => st1x (v := Value.int .i64) (x0 := (w64 (n_2783 - (1 : Int)))) hS (asg rfl) rfl fun p2789 a w hz hS => ?_
     have hM := lt_to hz hM; clear hz
     refine wpList_nil <| then_n <| seq_joinJ (fun a w => ∃ (start2813 : Int), Ss 220 [] [(0, .slice A2521 rw2523.length c2522), (1, .int .i64 a_2527), (2, .int .i64 m2528), (3, .int .i64 b_2529), (4, fnv 57 [] []), (18, .int .i64 mid2782), (19, .int .i64 n_2783), (20, .int .i64 start2813)] H [p2520, f2525] F a w ∧ (slices_symMergeCmpFunc_huff_packet__b6e1_7e8b.j11 K (slices_symMergeCmpFunc_huff_packet__b6e1_7e8b.r K d) data2519 a_2527 m2528 b_2529 mid2782 n_2783 start2813).wp kr kp) (fun J2814 hJ2814 => ?_) ?_
     ·refine wp_block ?_
      refine s_loopJ (fun k2792 a w => ∃ (start2790 : Int) (r2791 : Int), Ss 220 [] [(0, .slice A2521 rw2523.length c2522), (1, .int .i64 a_2527), (2, .int .i64 m2528), (3, .int .i64 b_2529), (4, fnv 57 [] []), (18, .int .i64 mid2782), (19, .int .i64 n_2783), (20, .int .i64 start2790), (21, .int .i64 r2791), (22, .int .i64 p2789)] H [p2520, f2525] F a w ∧ (slices_symMergeCmpFunc_huff_packet__b6e1_7e8b.l10 K (slices_symMergeCmpFunc_huff_packet__b6e1_7e8b.r K d) data2519 a_2527 m2528 b_2529 mid2782 n_2783 p2789 k2792 start2790 r2791).wp kr kp) K ?_ ?_ ?_
      ·exact ⟨start2786, r2787, hS.to [0, 1] (by kernel_rfl) ⟨rfl, rfl, rfl, rfl, rfl, rfl, rfl, rfl, rfl, rfl, trivial⟩, hM⟩
      ·intro a w hI; obtain ⟨_, _, _, hM⟩ := hI; exact wp_fail hM
      ·intro k2792 a w hI J2812 hJ2812
       obtain ⟨start2790, r2791, hS, hM⟩ := hI
       rw [slices_symMergeCmpFunc_huff_packet__b6e1_7e8b.l10] at hM
       refine wp_seq <| wp_seq <| wp_region_list <| st1 hS (mv rfl) rfl fun a w hS => st1 hS (mv rfl) rfl fun a w hS => st1 hS (bin rfl rfl rfl) rfl fun a w hS => wpList_nil <| then_n <| s_cond hS rfl hM (fun hb2793 hM => ?_) (fun hb2793 hM => ?_)
       ·refine wp_skip ?_
        refine then_n <| wp_block <| wp_seq <| wp_region_list <| st1 hS (mv rfl) rfl fun a w hS => st1 hS (mv rfl) rfl fun a w hS => st1 hS (bin rfl rfl rfl) rfl fun a w hS => st1 hS (cvi rfl Tryd.runUnderlying3 Tryd.runUnderlying39) rfl fun a w hS => st1 hS (shr rfl rfl rfl) rfl fun a w hS => st1 hS (cvi rfl Tryd.runUnderlying39 Tryd.runUnderlying3) rfl fun a w hS => st1x (v := Value.int .i64) (x0 := (wr .i64 (ishr .u64 (wr .u64 (w64 (start2790 + r2791))) (1 : Int)))) hS (asg rfl) rfl fun c_2794 a w hz hS => ?_
        have hM := lt_to hz hM; clear hz
        refine wpList_nil <| then_n <| wp_seq ?_
        obtain ⟨hk2796, hM⟩ := wp_chk hM
        obtain ⟨A2797, c2798, hw2801, hp2799, hc2800⟩ := hr2524.get hk2796
        obtain ⟨hk2803, hM⟩ := wp_chk hM
        obtain ⟨A2804, c2805, hw2808, hp2806, hc2807⟩ := hr2524.get hk2803
        refine draw_begin (vals := [some (fnv 57 [] []), some (.slice A2521 rw2523.length c2522), some (.int .i64 p2789), some (.int .i64 c_2794), some (.int .i64 (w64 (p2789 - c_2794))), some (slp A2521 (Int.toNat (w64 (p2789 - c_2794)) * 2)), some (.agg ⟨[.int .i64 ((rd data2519 (w64 (p2789 - c_2794))).often_), .slice A2797 ((rd data2519 (w64 (p2789 - c_2794))).symbols_).length c2798]⟩), some (.slice A2521 rw2523.length c2522), some (.int .i64 c_2794), some (slp A2521 (Int.toNat c_2794 * 2)), some (.agg ⟨[.int .i64 ((rd data2519 c_2794).often_), .slice A2804 ((rd data2519 c_2794).symbols_).length c2805]⟩), none, none, none]) hS mixed rfl ?_
        intro l w ho hcl hA hst
        refine phq hA hst ho hcl navail nmust 11 [0, 1, 2, 3, 4, 5, 6, 7, 8, 9, 10] rfl rfl rfl rfl rfl (by exact ⟨nR rfl rfl rfl rfl rfl (by exact ovE (mv rfl) rfl), nR rfl rfl rfl rfl rfl (by exact ovE (mv rfl) rfl), nR rfl rfl rfl rfl rfl (by exact ovE (mv rfl) rfl), nR rfl rfl rfl rfl rfl (by exact ovE (mv rfl) rfl), nR rfl rfl rfl rfl rfl (by exact ovE (bin rfl rfl rfl) rfl), nR rfl rfl rfl rfl rfl (by exact ovE (ixV rfl rfl Tryd.runUnderlying110 Tryd.sizeOf112 (hV2526.rd (i := 1) rfl) Row.len rfl (hr2524.inb hk2796)) rfl), nR rfl rfl rfl rfl rfl (by exact ovE (ovE (ldVA rfl (hV2526.rd (i := 1) rfl) Row.len (hr2524.inb hk2796) Tryd.isAgg112 Tryd.sizeOf112 rfl) (congrArg (fun l => Value.agg ⟨l⟩) hw2801)) rfl), nR rfl rfl rfl rfl rfl (by exact ovE (mv rfl) rfl), nR rfl rfl rfl rfl rfl (by exact ovE (mv rfl) rfl), nR rfl rfl rfl rfl rfl (by exact ovE (ixV rfl rfl Tryd.runUnderlying110 Tryd.sizeOf112 (hV2526.rd (i := 1) rfl) Row.len rfl (hr2524.inb hk2803)) rfl), nR rfl rfl rfl rfl rfl (by exact ovE (ovE (ldVA rfl (hV2526.rd (i := 1) rfl) Row.len (hr2524.inb hk2803) Tryd.isAgg112 Tryd.sizeOf112 rfl) (congrArg (fun l => Value.agg ⟨l⟩) hw2808)) rfl), trivial⟩) fun D l a w ho hcl hav hpre hm hE hk hA hst => ?_
        have hS := (Ss.mk hE hst).env2 (e' := [(158, fnv 57 [] []), (164, .agg ⟨[.int .i64 ((rd data2519 (w64 (p2789 - c_2794))).often_), .slice A2797 ((rd data2519 (w64 (p2789 - c_2794))).symbols_).length c2798]⟩), (168, .agg ⟨[.int .i64 ((rd data2519 c_2794).often_), .slice A2804 ((rd data2519 c_2794).symbols_).length c2805]⟩)]) ⟨rfl, rfl, rfl, trivial⟩
        refine op_of_nth rfl <| s_callV hS rfl rfl Tryd.call57 (huff_Lengths_2_c hG K (T_huff_packet.mk ((rd data2519 (w64 (p2789 - c_2794))).often_) ((rd data2519 (w64 (p2789 - c_2794))).symbols_)) (T_huff_packet.mk ((rd data2519 c_2794).often_) ((rd data2519 c_2794).symbols_)) A2797 c2798 A2804 c2805 (hp2799.rdF (i := 0) rfl) hc2800 (hp2806.rdF (i := 0) rfl) hc2807 (hS.st.part 0 [0, 1] (by kernel_rfl)) (wp_bind hM) (fun x2809 w hM  hst => s_back hS.ev hst.appF rfl fun hS => ?_))
        replace hS : Ss _ _ _ H [p2520, f2525] F _ _ := hS
        refine wpList_nil (then_n ?_)
        replace hst := hS.st
        obtain ⟨hcl, hmust, hav2, hA⟩ := dn (vals' := [some (fnv 57 [] []), some (.slice A2521 rw2523.length c2522), some (.int .i64 p2789), some (.int .i64 c_2794), some (.int .i64 (w64 (p2789 - c_2794))), some (slp A2521 (Int.toNat (w64 (p2789 - c_2794)) * 2)), some (.agg ⟨[.int .i64 ((rd data2519 (w64 (p2789 - c_2794))).often_), .slice A2797 ((rd data2519 (w64 (p2789 - c_2794))).symbols_).length c2798]⟩), some (.slice A2521 rw2523.length c2522), some (.int .i64 c_2794), some (slp A2521 (Int.toNat c_2794 * 2)), some (.agg ⟨[.int .i64 ((rd data2519 c_2794).often_), .slice A2804 ((rd data2519 c_2794).symbols_).length c2805]⟩), some (.int .i64 x2809), some (.bool (decide (x2809 < (0 : Int)))), some (.bool (!(decide (x2809 < (0 : Int)))))]) 11 [(0, 11), (6, 11), (10, 11), (5, 6), (9, 10), (1, 5), (4, 5), (7, 9), (8, 9), (2, 4), (3, 4)] hA hcl hav hm hpre hk rfl rfl rfl rfl rfl rfl rfl
        clear hm hav
        refine phqE hA hst ho hcl hmust [12, 13] rfl rfl rfl (by exact ⟨nR rfl rfl rfl rfl rfl (by exact ovE (bin rfl rfl rfl) rfl), nR rfl rfl rfl rfl rfl (by exact ovE (un rfl rfl) rfl), trivial⟩) fun a w hS => ?_
        replace hS := hS.env2 (e' := [(0, .slice A2521 rw2523.length c2522), (1, .int .i64 a_2527), (2, .int .i64 m2528), (3, .int .i64 b_2529), (4, fnv 57 [] []), (18, .int .i64 mid2782), (19, .int .i64 n_2783), (20, .int .i64 start2790), (21, .int .i64 r2791), (22, .int .i64 p2789), (23, .int .i64 c_2794), (171, .bool (!(decide (x2809 < (0 : Int)))))]) ⟨rfl, rfl, rfl, rfl, rfl, rfl, rfl, rfl, rfl, rfl, rfl, rfl, trivial⟩
        refine then_n <| s_cond hS rfl hM (fun hb2810 hM => ?_) (fun hb2810 hM => ?_)
        ·refine wp_region_list ?_
         refine st1 hS (mv rfl) rfl fun a w hS => st1 hS (bin rfl rfl rfl) rfl fun a w hS => st1x (v := Value.int .i64) (x0 := (w64 (c_2794 + (1 : Int)))) hS (asg rfl) rfl fun start2811 a w hz hS => ?_
         have hM := lt_to hz hM; clear hz
         refine wpList_nil <| blk_n (then_n ?_)
         exact hJ2812 _ _ ⟨start2811, r2791, hS.to [0, 1] (by kernel_rfl) ⟨rfl, rfl, rfl, rfl, rfl, rfl, rfl, rfl, rfl, rfl, trivial⟩, hM⟩
        ·refine wp_region_list ?_
         refine st1 hS (mv rfl) rfl fun a w hS => st1 hS (asg rfl) rfl fun a w hS => wpList_nil <| blk_n (then_n ?_)
         exact hJ2812 _ _ ⟨start2790, c_2794, hS.to [0, 1] (by kernel_rfl) ⟨rfl, rfl, rfl, rfl, rfl, rfl, rfl, rfl, rfl, rfl, trivial⟩, hM⟩
       ·refine wp_exit ?_
        refine then_ex (then_ex (blk_same (then_n ?_)))
        exact hJ2814 _ _ ⟨start2790, hS.to [0, 1] (by kernel_rfl) ⟨rfl, rfl, rfl, rfl, rfl, rfl, rfl, rfl, trivial⟩, hM⟩
     ·intro a w hI
      obtain ⟨start2813, hS, hM⟩ := hI
      rw [slices_symMergeCmpFunc_huff_packet__b6e1_7e8b.j11] at hM
      refine wp_seq <| wp_region_list <| st1 hS (mv rfl) rfl fun a w hS => st1 hS (mv rfl) rfl fun a w hS => st1 hS (bin rfl rfl rfl) rfl fun a w hS => st1x (v := Value.int .i64) (x0 := (w64 (n_2783 - start2813))) hS (asg rfl) rfl fun end_2815 a w hz hS => ?_
      have hM := lt_to hz hM; clear hz
      refine wpList_nil <| then_n <| seq_joinJ (fun a w => ∃ (rw2824 : List (Row 2)) (data2825 : (List T_huff_packet)) (f2826 : Frag), Ss 220 [] [(0, .slice A2521 rw2824.length c2522), (1, .int .i64 a_2527), (3, .int .i64 b_2529), (4, fnv 57 [] []), (18, .int .i64 mid2782), (20, .int .i64 start2813), (24, .int .i64 end_2815)] H [p2520, f2826] F a w ∧ (Vec 112 (Row.v (sz := 2)) 2 A2521 rw2824 c2522 f2826) ∧ (RelL (R_huff_packet p2520) data2825 rw2824) ∧ (rw2824.length = rw2523.length) ∧ (slices_symMergeCmpFunc_huff_packet__b6e1_7e8b.j12 K (slices_symMergeCmpFunc_huff_packet__b6e1_7e8b.r K d) a_2527 b_2529 mid2782 start2813 end_2815 data2825).wp kr kp) (fun J2830 hJ2830 => ?_) ?_
      ·refine wp_seq ?_
       refine wp_region_list <| st1 hS (mv rfl) rfl fun a w hS => st1 hS (mv rfl) rfl fun a w hS => st1 hS (bin rfl rfl rfl) rfl fun a w hS => st1 hS (mv rfl) rfl fun a w hS => g_op 3 true 181 (b := (decide (start2813 < m2528))) (r := (decide (m2528 < end_2815))) hS rfl rfl rfl rfl rfl rfl rfl (fun hb a w hS K hK => ?_) rfl fun a w hS => ?_
       ·refine st1g hS rfl rfl rfl hb (mv rfl) rfl fun a w hS => ?_
        refine st1g hS rfl rfl rfl hb (mv rfl) rfl fun a w hS => st1g hS rfl rfl rfl hb (bin rfl rfl rfl) rfl fun a w hS => ?_
        exact wpList_nil (hK _ _ (hS.up 3 rfl rfl))
       refine wpList_nil <| then_n <| s_cond hS rfl hM (fun hb2816 hM => ?_) (fun hb2816 hM => ?_)
       ·refine wp_region_list ?_
        refine st1 hS (mv rfl) rfl fun a w hS => st1 hS (mv rfl) rfl fun a w hS => st1 hS (mv rfl) rfl fun a w hS => st1 hS (mv rfl) rfl fun a w hS => st1 hS (mv rfl) rfl fun a w hS => s_call hS rfl Tryd.call108 (slices_rotateCmpFunc_huff_packet__b6e1_7e8b_c hG K data2519 start2813 m2528 end_2815 p2520 A2521 c2522 rw2523 f2525 hr2524 hV2526 (hS.st.part 2 [0, 1] (by kernel_rfl)) (wp_bind hM) (fun rw2817 data2818 f2819 w hM h2820 h2821 h2822 hst => s_back hS.ev hst.appF rfl fun hS => ?_))
        replace hS : Ss _ _ _ H [p2520, f2819] F _ _ := hS
        have hz2823 := Eq.trans h2822 hz2531
        replace hS := hS.re 0 (u := .slice A2521 rw2523.length c2522) (v := .slice A2521 rw2817.length c2522) rfl (by rw [h2822])
        replace hS := hS.re 186 (u := .slice A2521 rw2523.length c2522) (v := .slice A2521 rw2817.length c2522) rfl (by rw [h2822])
        refine wpList_nil <| then_n ?_
        exact hJ2830 _ _ ⟨rw2817, data2818, f2819, hS.to [0, 1] (by kernel_rfl) ⟨rfl, rfl, rfl, rfl, rfl, rfl, rfl, trivial⟩, h2820, h2821, hz2823, hM⟩
       ·refine wp_skip ?_
        refine then_n ?_
        exact hJ2830 _ _ ⟨rw2523, data2519, f2525, hS.to [0, 1] (by kernel_rfl) ⟨rfl, rfl, rfl, rfl, rfl, rfl, rfl, trivial⟩, hV2526, hr2524, hz2531, hM⟩
      ·intro a w hI
       obtain ⟨rw2824, data2825, f2826, hS, hV2827, hr2828, hz2829, hM⟩ := hI
       rw [slices_symMergeCmpFunc_huff_packet__b6e1_7e8b.j12] at hM
       refine seq_joinJ (fun a w => ∃ (rw2839 : List (Row 2)) (data2840 : (List T_huff_packet)) (f2841 : Frag), Ss 220 [] [(0, .slice A2521 rw2839.length c2522), (3, .int .i64 b_2529), (4, fnv 57 [] []), (18, .int .i64 mid2782), (24, .int .i64 end_2815)] H [p2520, f2841] F a w ∧ (Vec 112 (Row.v (sz := 2)) 2 A2521 rw2839 c2522 f2841) ∧ (RelL (R_huff_packet p2520) data2840 rw2839) ∧ (rw2839.length = rw2523.length) ∧ (slices_symMergeCmpFunc_huff_packet__b6e1_7e8b.j13 K (slices_symMergeCmpFunc_huff_packet__b6e1_7e8b.r K d) b_2529 mid2782 end_2815 data2840).wp kr kp) (fun J2845 hJ2845 => ?_) ?_
       ·refine wp_seq ?_
        refine wp_region_list <| st1 hS (mv rfl) rfl fun a w hS => st1 hS (mv rfl) rfl fun a w hS => st1 hS (bin rfl rfl rfl) rfl fun a w hS => st1 hS (mv rfl) rfl fun a w hS => g_op 3 true 195 (b := (decide (a_2527 < start2813))) (r := (decide (start2813 < mid2782))) hS rfl rfl rfl rfl rfl rfl rfl (fun hb a w hS K hK => ?_) rfl fun a w hS => ?_
        ·refine st1g hS rfl rfl rfl hb (mv rfl) rfl fun a w hS => ?_
         refine st1g hS rfl rfl rfl hb (mv rfl) rfl fun a w hS => st1g hS rfl rfl rfl hb (bin rfl rfl rfl) rfl fun a w hS => ?_
         exact wpList_nil (hK _ _ (hS.up 3 rfl rfl))
        refine wpList_nil <| then_n <| s_cond hS rfl hM (fun hb2831 hM => ?_) (fun hb2831 hM => ?_)
        ·refine wp_region_list ?_
         refine st1 hS (mv rfl) rfl fun a w hS => st1 hS (mv rfl) rfl fun a w hS => st1 hS (mv rfl) rfl fun a w hS => st1 hS (mv rfl) rfl fun a w hS => st1 hS (mv rfl) rfl fun a w hS => s_call hS rfl Tryd.call100 (ih hG  data2825 a_2527 start2813 mid2782 p2520 A2521 c2522 rw2824 f2826 hr2828 hV2827 (hS.st.part 2 [0, 1] (by kernel_rfl)) (wp_bind hM) (fun rw2832 data2833 f2834 w hM h2835 h2836 h2837 hst => s_back hS.ev hst.appF rfl fun hS => ?_))
         replace hS : Ss _ _ _ H [p2520, f2834] F _ _ := hS
         have hz2838 := Eq.trans h2837 hz2829
         replace hS := hS.re 0 (u := .slice A2521 rw2824.length c2522) (v := .slice A2521 rw2832.length c2522) rfl (by rw [h2837])
         replace hS := hS.re 200 (u := .slice A2521 rw2824.length c2522) (v := .slice A2521 rw2832.length c2522) rfl (by rw [h2837])
         refine wpList_nil <| then_n ?_
         exact hJ2845 _ _ ⟨rw2832, data2833, f2834, hS.to [0, 1] (by kernel_rfl) ⟨rfl, rfl, rfl, rfl, rfl, trivial⟩, h2835, h2836, hz2838, hM⟩
        ·refine wp_skip ?_
         refine then_n ?_
         exact hJ2845 _ _ ⟨rw2824, data2825, f2826, hS.to [0, 1] (by kernel_rfl) ⟨rfl, rfl, rfl, rfl, rfl, trivial⟩, hV2827, hr2828, hz2829, hM⟩
       ·intro a w hI
        obtain ⟨rw2839, data2840, f2841, hS, hV2842, hr2843, hz2844, hM⟩ := hI
        rw [slices_symMergeCmpFunc_huff_packet__b6e1_7e8b.j13] at hM
        refine wp_seq <| wp_region_list <| st1 hS (mv rfl) rfl fun a w hS => st1 hS (mv rfl) rfl fun a w hS => st1 hS (bin rfl rfl rfl) rfl fun a w hS => st1 hS (mv rfl) rfl fun a w hS => g_op 3 true 209 (b := (decide (mid2782 < end_2815))) (r := (decide (end_2815 < b_2529))) hS rfl rfl rfl rfl rfl rfl rfl (fun hb a w hS K hK => ?_) rfl fun a w hS => ?_
        ·refine st1g hS rfl rfl rfl hb (mv rfl) rfl fun a w hS => ?_
         refine st1g hS rfl rfl rfl hb (mv rfl) rfl fun a w hS => st1g hS rfl rfl rfl hb (bin rfl rfl rfl) rfl fun a w hS => ?_
         exact wpList_nil (hK _ _ (hS.up 3 rfl rfl))
        refine wpList_nil <| then_n <| s_cond hS rfl hM (fun hb2846 hM => ?_) (fun hb2846 hM => ?_)
        ·refine wp_region_list ?_
         refine st1 hS (mv rfl) rfl fun a w hS => st1 hS (mv rfl) rfl fun a w hS => st1 hS (mv rfl) rfl fun a w hS => st1 hS (mv rfl) rfl fun a w hS => st1 hS (mv rfl) rfl fun a w hS => s_call hS rfl Tryd.call100 (ih hG  data2840 mid2782 end_2815 b_2529 p2520 A2521 c2522 rw2839 f2841 hr2843 hV2842 (hS.st.part 2 [0, 1] (by kernel_rfl)) (wp_bind hM) (fun rw2847 data2848 f2849 w hM h2850 h2851 h2852 hst => s_back hS.ev hst.appF rfl fun hS => ?_))
         replace hS : Ss _ _ _ H [p2520, f2849] F _ _ := hS
         have hz2853 := Eq.trans h2852 hz2844
         replace hS := hS.re 0 (u := .slice A2521 rw2839.length c2522) (v := .slice A2521 rw2847.length c2522) rfl (by rw [h2852])
         replace hS := hS.re 214 (u := .slice A2521 rw2839.length c2522) (v := .slice A2521 rw2847.length c2522) rfl (by rw [h2852])
         refine wpList_nil ?_
         exact s_end (rs := []) hS rfl rfl (hret rw2847 data2848 f2849 w (wp_ok hM) h2850 h2851 hz2853 (hS.st.pick [0, 1] (by kernel_rfl)))
        ·refine wp_skip ?_
         exact s_end (rs := []) hS rfl rfl (hret rw2839 data2840 f2841 w (wp_ok hM) hV2842 hr2843 hz2844 (hS.st.pick [0, 1] (by kernel_rfl)))

theorem slices_symMergeCmpFunc_huff_packet__b6e1_7e8b_c {H : Imm} {F : List Frag} {w : World} {R : Ending → World → Prop} {kr : (List T_huff_packet) → Prop} {kp : Value → Prop} (hG : Gl H) (K : Nat) (data2519 : List T_huff_packet) (a_2527 : Int) (m2528 : Int) (b_2529 : Int) (p2520 : Frag) (A2521 : Option Addr) (c2522 : Nat) (rw2523 : List (Row 2)) (f2525 : Frag) (hr2524 : RelL (R_huff_packet p2520) data2519 rw2523) (hV2526 : Vec 112 (Row.v (sz := 2)) 2 A2521 rw2523 c2522 f2525)
    (hS : St w H [p2520, f2525] F) (hm : (slices_symMergeCmpFunc_huff_packet__b6e1_7e8b.m K data2519 a_2527 m2528 b_2529).wp kr kp)
    (hret : ∀ (rw2854 : List (Row 2)) (data2855 : (List T_huff_packet)) (f2856 : Frag) (w : World), kr data2855 → (Vec 112 (Row.v (sz := 2)) 2 A2521 rw2854 c2522 f2856) → (RelL (R_huff_packet p2520) data2855 rw2854) → (rw2854.length = rw2523.length) → St w H [p2520, f2856] F → R (.returned (.tuple ⟨[]⟩)) w) :
    Calls Tryd.prog 100 ⟨[.slice A2521 rw2523.length c2522, .int .i64 a_2527, .int .i64 m2528, .int .i64 b_2529, fnv 57 [] []]⟩ w R := slices_symMergeCmpFunc_huff_packet__b6e1_7e8b_cr K K hG data2519 a_2527 m2528 b_2529 p2520 A2521 c2522 rw2523 f2525 hr2524 hV2526 hS hm hret

theorem slices_stableCmpFunc_huff_packet__b6e1_8977_c {H : Imm} {F : List Frag} {w : World} {R : Ending → World → Prop} {kr : (List T_huff_packet) → Prop} {kp : Value → Prop} (hG : Gl H) (K : Nat) (data1574 : List T_huff_packet) (n_1582 : Int) (p1575 : Frag) (A1576 : Option Addr) (c1577 : Nat) (rw1578 : List (Row 2)) (f1580 : Frag) (hr1579 : RelL (R_huff_packet p1575) data1574 rw1578) (hV1581 : Vec 112 (Row.v (sz := 2)) 2 A1576 rw1578 c1577 f1580)
    (hS : St w H [p1575, f1580] F) (hm : (slices_stableCmpFunc_huff_packet__b6e1_8977.m K data1574 n_1582).wp kr kp)
    (hret : ∀ (rw2990 : List (Row 2)) (data2991 : (List T_huff_packet)) (f2992 : Frag) (w : World), kr data2991 → (Vec 112 (Row.v (sz := 2)) 2 A1576 rw2990 c1577 f2992) → (RelL (R_huff_packet p1575) data2991 rw2990) → (rw2990.length = rw1578.length) → St w H [p1575, f2992] F → R (.returned (.tuple ⟨[]⟩)) w) :
    Calls Tryd.prog 81 ⟨[.slice A1576 rw1578.length c1577, .int .i64 n_1582, fnv 57 [] []]⟩ w R := by
 refine enter Tryd.func81 rfl Tryd.ntmps81 rfl hS fun a w hS => ?_
 have hM := hm; clear hm
 rw [slices_stableCmpFunc_huff_packet__b6e1_8977.m] at hM
 have hs1583 : ∀ q ∈ p1575, q ∈ p1575 := fun _ h => h
 have hz1584 : rw1578.length = rw1578.length := rfl
 refine wp_seq <| wp_region_list <| st1 hS (asg rfl) rfl fun a w hS => wpList_nil <| then_n <| wp_seq <| wp_region_list <| st1 hS (mv rfl) rfl fun a w hS => st1 hS (asg rfl) rfl fun a w hS => st1 hS (asg rfl) rfl fun a w hS => wpList_nil <| then_n <| seq_joinJ (fun a w => ∃ (rw1966 : List (Row 2)) (data1967 : (List T_huff_packet)) (f1968 : Frag) (a_1972 : Int), Ss 63 [] [(0, .slice A1576 rw1966.length c1577), (1, .int .i64 n_1582), (2, fnv 57 [] []), (6, .int .i64 (20 : Int)), (7, .int .i64 a_1972)] H [p1575, f1968] F a w ∧ (Vec 112 (Row.v (sz := 2)) 2 A1576 rw1966 c1577 f1968) ∧ (RelL (R_huff_packet p1575) data1967 rw1966) ∧ (rw1966.length = rw1578.length) ∧ (slices_stableCmpFunc_huff_packet__b6e1_8977.j2 K n_1582 data1967 a_1972).wp kr kp) (fun J1973 hJ1973 => ?_) ?_
 ·refine wp_block ?_
  refine s_loopJ (fun k1955 a w => ∃ (rw1947 : List (Row 2)) (data1948 : (List T_huff_packet)) (f1949 : Frag) (a_1953 : Int) (b_1954 : Int), Ss 63 [] [(0, .slice A1576 rw1947.length c1577), (1, .int .i64 n_1582), (2, fnv 57 [] []), (6, .int .i64 (20 : Int)), (7, .int .i64 a_1953), (8, .int .i64 b_1954)] H [p1575, f1949] F a w ∧ (Vec 112 (Row.v (sz := 2)) 2 A1576 rw1947 c1577 f1949) ∧ (RelL (R_huff_packet p1575) data1948 rw1947) ∧ (rw1947.length = rw1578.length) ∧ (slices_stableCmpFunc_huff_packet__b6e1_8977.l1 K n_1582 k1955 data1948 a_1953 b_1954).wp kr kp) K ?_ ?_ ?_
  ·exact ⟨rw1578, data1574, f1580, (0 : Int), (20 : Int), hS.to [0, 1] (by kernel_rfl) ⟨rfl, rfl, rfl, rfl, rfl, rfl, trivial⟩, hV1581, hr1579, hz1584, hM⟩
  ·intro a w hI; obtain ⟨_, _, _, _, _, _, _, _, _, hM⟩ := hI; exact wp_fail hM
  ·intro k1955 a w hI J1965 hJ1965
   obtain ⟨rw1947, data1948, f1949, a_1953, b_1954, hS, hV1950, hr1951, hz1952, hM⟩ := hI
   rw [slices_stableCmpFunc_huff_packet__b6e1_8977.l1] at hM
   refine wp_seq <| wp_seq <| wp_region_list <| st1 hS (mv rfl) rfl fun a w hS => st1 hS (mv rfl) rfl fun a w hS => st1 hS (bin rfl rfl rfl) rfl fun a w hS => wpList_nil <| then_n <| s_cond hS rfl hM (fun hb1956 hM => ?_) (fun hb1956 hM => ?_)
   ·refine wp_skip ?_
    refine then_n <| wp_block <| wp_seq <| wp_region_list <| st1 hS (mv rfl) rfl fun a w hS => st1 hS (mv rfl) rfl fun a w hS => st1 hS (mv rfl) rfl fun a w hS => st1 hS (mv rfl) rfl fun a w hS => s_call hS rfl Tryd.call99 (slices_insertionSortCmpFunc_huff_packet__b6e1_5de2_c hG K data1948 a_1953 b_1954 p1575 A1576 c1577 rw1947 f1949 hr1951 hV1950 (hS.st.part 2 [0, 1] (by kernel_rfl)) (wp_bind hM) (fun rw1957 data1958 f1959 w hM h1960 h1961 h1962 hst => s_back hS.ev hst.appF rfl fun hS => ?_))
    replace hS : Ss _ _ _ H [p1575, f1959] F _ _ := hS
    have hz1963 := Eq.trans h1962 hz1952
    replace hS := hS.re 0 (u := .slice A1576 rw1947.length c1577) (v := .slice A1576 rw1957.length c1577) rfl (by rw [h1962])
    replace hS := hS.re 14 (u := .slice A1576 rw1947.length c1577) (v := .slice A1576 rw1957.length c1577) rfl (by rw [h1962])
    refine wpList_nil <| then_n <| wp_seq <| wp_region_list <| st1 hS (mv rfl) rfl fun a w hS => st1 hS (asg rfl) rfl fun a w hS => wpList_nil <| then_n <| wp_region_list <| st1 hS (mv rfl) rfl fun a w hS => st1 hS (mv rfl) rfl fun a w hS => st1 hS (bin rfl rfl rfl) rfl fun a w hS => st1x (v := Value.int .i64) (x0 := (w64 (b_1954 + (20 : Int)))) hS (asg rfl) rfl fun b_1964 a w hz hS => ?_
    have hM := lt_to hz hM; clear hz
    refine wpList_nil <| blk_n (then_n ?_)
    exact hJ1965 _ _ ⟨rw1957, data1958, f1959, b_1954, b_1964, hS.to [0, 1] (by kernel_rfl) ⟨rfl, rfl, rfl, rfl, rfl, rfl, trivial⟩, h1960, h1961, hz1963, hM⟩
   ·refine wp_exit ?_
    refine then_ex (then_ex (blk_same (then_n ?_)))
    exact hJ1973 _ _ ⟨rw1947, data1948, f1949, a_1953, hS.to [0, 1] (by kernel_rfl) ⟨rfl, rfl, rfl, rfl, rfl, trivial⟩, hV1950, hr1951, hz1952, hM⟩
 ·intro a w hI
  obtain ⟨rw1966, data1967, f1968, a_1972, hS, hV1969, hr1970, hz1971, hM⟩ := hI
  rw [slices_stableCmpFunc_huff_packet__b6e1_8977.j2] at hM
  refine wp_seq <| wp_region_list <| st1 hS (mv rfl) rfl fun a w hS => st1 hS (mv rfl) rfl fun a w hS => st1 hS (mv rfl) rfl fun a w hS => st1 hS (mv rfl) rfl fun a w hS => s_call hS rfl Tryd.call99 (slices_insertionSortCmpFunc_huff_packet__b6e1_5de2_c hG K data1967 a_1972 n_1582 p1575 A1576 c1577 rw1966 f1968 hr1970 hV1969 (hS.st.part 2 [0, 1] (by kernel_rfl)) (wp_bind hM) (fun rw1974 data1975 f1976 w hM h1977 h1978 h1979 hst => s_back hS.ev hst.appF rfl fun hS => ?_))
  replace hS : Ss _ _ _ H [p1575, f1976] F _ _ := hS
  have hz1980 := Eq.trans h1979 hz1971
  replace hS := hS.re 0 (u := .slice A1576 rw1966.length c1577) (v := .slice A1576 rw1974.length c1577) rfl (by rw [h1979])
  replace hS := hS.re 23 (u := .slice A1576 rw1966.length c1577) (v := .slice A1576 rw1974.length c1577) rfl (by rw [h1979])
  refine wpList_nil <| then_n <| wp_block <| s_loopJ (fun k2928 a w => ∃ (rw2921 : List (Row 2)) (data2922 : (List T_huff_packet)) (f2923 : Frag) (blockSize2927 : Int), Ss 63 [] [(0, .slice A1576 rw2921.length c1577), (1, .int .i64 n_1582), (2, fnv 57 [] []), (6, .int .i64 blockSize2927)] H [p1575, f2923] F a w ∧ (Vec 112 (Row.v (sz := 2)) 2 A1576 rw2921 c1577 f2923) ∧ (RelL (R_huff_packet p1575) data2922 rw2921) ∧ (rw2921.length = rw1578.length) ∧ (slices_stableCmpFunc_huff_packet__b6e1_8977.l3 K n_1582 k2928 data2922 blockSize2927).wp kr kp) K ?_ ?_ ?_
  ·exact ⟨rw1974, data1975, f1976, (20 : Int), hS.to [0, 1] (by kernel_rfl) ⟨rfl, rfl, rfl, rfl, trivial⟩, h1977, h1978, hz1980, hM⟩
  ·intro a w hI; obtain ⟨_, _, _, _, _, _, _, _, hM⟩ := hI; exact wp_fail hM
  ·intro k2928 a w hI J2989 hJ2989
   obtain ⟨rw2921, data2922, f2923, blockSize2927, hS, hV2924, hr2925, hz2926, hM⟩ := hI
   rw [slices_stableCmpFunc_huff_packet__b6e1_8977.l3] at hM
   refine wp_seq <| wp_seq <| wp_region_list <| st1 hS (mv rfl) rfl fun a w hS => st1 hS (mv rfl) rfl fun a w hS => st1 hS (bin rfl rfl rfl) rfl fun a w hS => wpList_nil <| then_n <| s_cond hS rfl hM (fun hb2929 hM => ?_) (fun hb2929 hM => ?_)
   ·refine wp_skip ?_
    refine then_n <| wp_block <| wp_seq <| wp_region_list <| st1 hS (mv rfl) rfl fun a w hS => st1 hS (bin rfl rfl rfl) rfl fun a w hS => st1 hS (asg rfl) rfl fun a w hS => st1x (v := Value.int .i64) (x0 := (w64 ((2 : Int) * blockSize2927))) hS (asg rfl) rfl fun b_2930 a w hz hS => ?_
    have hM := lt_to hz hM; clear hz
    refine wpList_nil <| then_n <| seq_joinJ (fun a w => ∃ (rw2970 : List (Row 2)) (data2971 : (List T_huff_packet)) (f2972 : Frag) (a_2976 : Int), Ss 63 [] [(0, .slice A1576 rw2970.length c1577), (1, .int .i64 n_1582), (2, fnv 57 [] []), (6, .int .i64 blockSize2927), (7, .int .i64 a_2976)] H [p1575, f2972] F a w ∧ (Vec 112 (Row.v (sz := 2)) 2 A1576 rw2970 c1577 f2972) ∧ (RelL (R_huff_packet p1575) data2971 rw2970) ∧ (rw2970.length = rw1578.length) ∧ (slices_stableCmpFunc_huff_packet__b6e1_8977.j5 K (slices_stableCmpFunc_huff_packet__b6e1_8977.l3 K n_1582 k2928) n_1582 blockSize2927 data2971 a_2976).wp kr kp) (fun J2977 hJ2977 => ?_) ?_
    ·refine wp_block ?_
     refine s_loopJ (fun k2959 a w => ∃ (rw2951 : List (Row 2)) (data2952 : (List T_huff_packet)) (f2953 : Frag) (a_2957 : Int) (b_2958 : Int), Ss 63 [] [(0, .slice A1576 rw2951.length c1577), (1, .int .i64 n_1582), (2, fnv 57 [] []), (6, .int .i64 blockSize2927), (7, .int .i64 a_2957), (8, .int .i64 b_2958)] H [p1575, f2953] F a w ∧ (Vec 112 (Row.v (sz := 2)) 2 A1576 rw2951 c1577 f2953) ∧ (RelL (R_huff_packet p1575) data2952 rw2951) ∧ (rw2951.length = rw1578.length) ∧ (slices_stableCmpFunc_huff_packet__b6e1_8977.l4 K (slices_stableCmpFunc_huff_packet__b6e1_8977.l3 K n_1582 k2928) n_1582 blockSize2927 k2959 data2952 a_2957 b_2958).wp kr kp) K ?_ ?_ ?_
     ·exact ⟨rw2921, data2922, f2923, (0 : Int), b_2930, hS.to [0, 1] (by kernel_rfl) ⟨rfl, rfl, rfl, rfl, rfl, rfl, trivial⟩, hV2924, hr2925, hz2926, hM⟩
     ·intro a w hI; obtain ⟨_, _, _, _, _, _, _, _, _, hM⟩ := hI; exact wp_fail hM
     ·intro k2959 a w hI J2969 hJ2969
      obtain ⟨rw2951, data2952, f2953, a_2957, b_2958, hS, hV2954, hr2955, hz2956, hM⟩ := hI
      rw [slices_stableCmpFunc_huff_packet__b6e1_8977.l4] at hM
      refine wp_seq <| wp_seq <| wp_region_list <| st1 hS (mv rfl) rfl fun a w hS => st1 hS (mv rfl) rfl fun a w hS => st1 hS (bin rfl rfl rfl) rfl fun a w hS => wpList_nil <| then_n <| s_cond hS rfl hM (fun hb2960 hM => ?_) (fun hb2960 hM => ?_)
      ·refine wp_skip ?_
       refine then_n <| wp_block <| wp_seq <| wp_region_list <| st1 hS (mv rfl) rfl fun a w hS => st1 hS (mv rfl) rfl fun a w hS => st1 hS (mv rfl) rfl fun a w hS => st1 hS (mv rfl) rfl fun a w hS => st1 hS (bin rfl rfl rfl) rfl fun a w hS => st1 hS (mv rfl) rfl fun a w hS => st1 hS (mv rfl) rfl fun a w hS => s_call hS rfl Tryd.call100 (slices_symMergeCmpFunc_huff_packet__b6e1_7e8b_c hG K data2952 a_2957 (w64 (a_2957 + blockSize2927)) b_2958 p1575 A1576 c1577 rw2951 f2953 hr2955 hV2954 (hS.st.part 2 [0, 1] (by kernel_rfl)) (wp_bind hM) (fun rw2961 data2962 f2963 w hM h2964 h2965 h2966 hst => s_back hS.ev hst.appF rfl fun hS => ?_))
       replace hS : Ss _ _ _ H [p1575, f2963] F _ _ := hS
       have hz2967 := Eq.trans h2966 hz2956
       replace hS := hS.re 0 (u := .slice A1576 rw2951.length c1577) (v := .slice A1576 rw2961.length c1577) rfl (by rw [h2966])
       replace hS := hS.re 36 (u := .slice A1576 rw2951.length c1577) (v := .slice A1576 rw2961.length c1577) rfl (by rw [h2966])
       refine wpList_nil <| then_n <| wp_seq <| wp_region_list <| st1 hS (mv rfl) rfl fun a w hS => st1 hS (asg rfl) rfl fun a w hS => wpList_nil <| then_n <| wp_region_list <| st1 hS (mv rfl) rfl fun a w hS => st1 hS (mv rfl) rfl fun a w hS => st1 hS (bin rfl rfl rfl) rfl fun a w hS => st1 hS (bin rfl rfl rfl) rfl fun a w hS => st1x (v := Value.int .i64) (x0 := (w64 (b_2958 + (w64 ((2 : Int) * blockSize2927))))) hS (asg rfl) rfl fun b_2968 a w hz hS => ?_
       have hM := lt_to hz hM; clear hz
       refine wpList_nil <| blk_n (then_n ?_)
       exact hJ2969 _ _ ⟨rw2961, data2962, f2963, b_2958, b_2968, hS.to [0, 1] (by kernel_rfl) ⟨rfl, rfl, rfl, rfl, rfl, rfl, trivial⟩, h2964, h2965, hz2967, hM⟩
      ·refine wp_exit ?_
       refine then_ex (then_ex (blk_same (then_n ?_)))
       exact hJ2977 _ _ ⟨rw2951, data2952, f2953, a_2957, hS.to [0, 1] (by kernel_rfl) ⟨rfl, rfl, rfl, rfl, rfl, trivial⟩, hV2954, hr2955, hz2956, hM⟩
    ·intro a w hI
     obtain ⟨rw2970, data2971, f2972, a_2976, hS, hV2973, hr2974, hz2975, hM⟩ := hI
     rw [slices_stableCmpFunc_huff_packet__b6e1_8977.j5] at hM
     refine wp_seq <| wp_seq <| wp_region_list <| st1 hS (mv rfl) rfl fun a w hS => st1 hS (mv rfl) rfl fun a w hS => st1 hS (bin rfl rfl rfl) rfl fun a w hS => st1x (v := Value.int .i64) (x0 := (w64 (a_2976 + blockSize2927))) hS (asg rfl) rfl fun m2978 a w hz hS => ?_
     have hM := lt_to hz hM; clear hz
     refine wpList_nil <| then_n <| wp_seq <| wp_region_list <| st1 hS (mv rfl) rfl fun a w hS => st1 hS (mv rfl) rfl fun a w hS => st1 hS (bin rfl rfl rfl) rfl fun a w hS => wpList_nil <| then_n <| s_cond hS rfl hM (fun hb2979 hM => ?_) (fun hb2979 hM => ?_)
     ·refine wp_region_list ?_
      refine st1 hS (mv rfl) rfl fun a w hS => st1 hS (mv rfl) rfl fun a w hS => st1 hS (mv rfl) rfl fun a w hS => st1 hS (mv rfl) rfl fun a w hS => st1 hS (mv rfl) rfl fun a w hS => s_call hS rfl Tryd.call100 (slices_symMergeCmpFunc_huff_packet__b6e1_7e8b_c hG K data2971 a_2976 m2978 n_1582 p1575 A1576 c1577 rw2970 f2972 hr2974 hV2973 (hS.st.part 2 [0, 1] (by kernel_rfl)) (wp_bind hM) (fun rw2980 data2981 f2982 w hM h2983 h2984 h2985 hst => s_back hS.ev hst.appF rfl fun hS => ?_))
      replace hS : Ss _ _ _ H [p1575, f2982] F _ _ := hS
      have hz2986 := Eq.trans h2985 hz2975
      replace hS := hS.re 0 (u := .slice A1576 rw2970.length c1577) (v := .slice A1576 rw2980.length c1577) rfl (by rw [h2985])
      replace hS := hS.re 55 (u := .slice A1576 rw2970.length c1577) (v := .slice A1576 rw2980.length c1577) rfl (by rw [h2985])
      refine wpList_nil <| then_n <| wp_region_list <| st1 hS (mv rfl) rfl fun a w hS => st1 hS (bin rfl rfl rfl) rfl fun a w hS => st1x (v := Value.int .i64) (x0 := (w64 (blockSize2927 * (2 : Int)))) hS (asg rfl) rfl fun blockSize2987 a w hz hS => ?_
      have hM := lt_to hz hM; clear hz
      refine wpList_nil <| blk_n (then_n ?_)
      exact hJ2989 _ _ ⟨rw2980, data2981, f2982, blockSize2987, hS.to [0, 1] (by kernel_rfl) ⟨rfl, rfl, rfl, rfl, trivial⟩, h2983, h2984, hz2986, hM⟩
     ·refine wp_skip ?_
      refine then_n <| wp_region_list <| st1 hS (mv rfl) rfl fun a w hS => st1 hS (bin rfl rfl rfl) rfl fun a w hS => st1x (v := Value.int .i64) (x0 := (w64 (blockSize2927 * (2 : Int)))) hS (asg rfl) rfl fun blockSize2988 a w hz hS => ?_
      have hM := lt_to hz hM; clear hz
      refine wpList_nil <| blk_n (then_n ?_)
      exact hJ2989 _ _ ⟨rw2970, data2971, f2972, blockSize2988, hS.to [0, 1] (by kernel_rfl) ⟨rfl, rfl, rfl, rfl, trivial⟩, hV2973, hr2974, hz2975, hM⟩
   ·refine wp_exit ?_
    refine then_ex (then_ex (blk_same ?_))
    exact s_end (rs := []) hS rfl rfl (hret rw2921 data2922 f2923 w (wp_ok hM) hV2924 hr2925 hz2926 (hS.st.pick [0, 1] (by kernel_rfl)))

theorem slices_SortStableFunc___huff_packet_huff_packet__b6e1_f289_c {H : Imm} {F : List Frag} {w : World} {R : Ending → World → Prop} {kr : (List T_huff_packet) → Prop} {kp : Value → Prop} (hG : Gl H) (K : Nat) (x1564 : List T_huff_packet) (p1565 : Frag) (A1566 : Option Addr) (c1567 : Nat) (rw1568 : List (Row 2)) (f1570 : Frag) (hr1569 : RelL (R_huff_packet p1565) x1564 rw1568) (hV1571 : Vec 112 (Row.v (sz := 2)) 2 A1566 rw1568 c1567 f1570)
    (hS : St w H [p1565, f1570] F) (hm : (slices_SortStableFunc___huff_packet_huff_packet__b6e1_f289.m K x1564).wp kr kp)
    (hret : ∀ (rw3003 : List (Row 2)) (x3004 : (List T_huff_packet)) (f3005 : Frag) (w : World), kr x3004 → (Vec 112 (Row.v (sz := 2)) 2 A1566 rw3003 c1567 f3005) → (RelL (R_huff_packet p1565) x3004 rw3003) → (rw3003.length = rw1568.length) → St w H [p1565, f3005] F → R (.returned (.tuple ⟨[]⟩)) w) :
    Calls Tryd.prog 56 ⟨[.slice A1566 rw1568.length c1567, fnv 57 [] []]⟩ w R := by
 refine enter Tryd.func56 rfl Tryd.ntmps56 rfl hS fun a w hS => ?_
 have hM := hm; clear hm
 rw [slices_SortStableFunc___huff_packet_huff_packet__b6e1_f289.m] at hM
 have hs1572 : ∀ q ∈ p1565, q ∈ p1565 := fun _ h => h
 have hz1573 : rw1568.length = rw1568.length := rfl
 refine wp_region_list <| st1 hS (mv rfl) rfl fun a w hS => st1 hS (mv rfl) rfl fun a w hS => st1 hS (ovE (v' := .int .i64 (x1564.length : Int)) (lenV rfl Tryd.runUnderlying110) (by rw [hr1569.len])) rfl fun a w hS => st1 hS (mv rfl) rfl fun a w hS => s_call hS rfl Tryd.call81 (slices_stableCmpFunc_huff_packet__b6e1_8977_c hG K x1564 (x1564.length : Int) p1565 A1566 c1567 rw1568 f1570 hr1569 hV1571 (hS.st.part 2 [0, 1] (by kernel_rfl)) (wp_bind hM) (fun rw2996 data2997 f2998 w hM h2999 h3000 h3001 hst => s_back hS.ev hst.appF rfl fun hS => ?_))
 replace hS : Ss _ _ _ H [p1565, f2998] F _ _ := hS
 have hz3002 := Eq.trans h3001 hz1573
 replace hS := hS.re 0 (u := .slice A1566 rw1568.length c1567) (v := .slice A1566 rw2996.length c1567) rfl (by rw [h3001])
 replace hS := hS.re 4 (u := .slice A1566 rw1568.length c1567) (v := .slice A1566 rw2996.length c1567) rfl (by rw [h3001])
 replace hS := hS.re 5 (u := .slice A1566 rw1568.length c1567) (v := .slice A1566 rw2996.length c1567) rfl (by rw [h3001])
 refine wpList_nil ?_
 exact s_end (rs := []) hS rfl rfl (hret rw2996 data2997 f2998 w (wp_ok hM) h2999 h3000 hz3002 (hS.st.pick [0, 1] (by kernel_rfl)))

def R_s_int (p : Frag) (x : (List Int)) (vs : List Value) : Prop :=
  ∃ (A0 : Option Addr) (c0 : Nat), vs = [.slice A0 x.length c0] ∧ Pl p (ci .i64) A0 x ∧ x.length ≤ c0
theorem R_s_int.mono {p p' : Frag} (hs : ∀ q ∈ p, q ∈ p') {x : (List Int)} {vs : List Value} (h : R_s_int p x vs) : R_s_int p' x vs := by
  obtain ⟨A0, c0, h0, h1, h2⟩ := h
  exact ⟨A0, c0, h0, h1.mono hs, h2⟩

theorem slices_Grow___int_int__f5f7_c {H : Imm} {F : List Frag} {w : World} {R : Ending → World → Prop} {kr : Unit → Prop} {kp : Value → Prop} (hG : Gl H) (K : Nat) (n_3102 : Int)
    (hS : St w H [] F) (hm : (slices_Grow___int_int__f5f7.m K n_3102).wp kr kp)
    (hret : ∀ (A3117 : Option Addr) (c3118 : Nat) (f3119 : Frag) (w : World), kr () → (Vec 3 (ci .i64) 1 A3117 ([] : List Int) c3118 f3119) → St w H [f3119] F → R (.returned (.slice A3117 ([] : List Int).length c3118)) w)
    (hpan : ∀ v w, kp v → St w H [] F → R (.panicked [⟨v, false, false⟩]) w) :
    Calls Tryd.prog 102 ⟨[.slice none 0 0, .int .i64 n_3102]⟩ w R := by
 refine enter Tryd.func102 rfl Tryd.ntmps102 rfl hS fun a w hS => ?_
 have hM := hm; clear hm
 rw [slices_Grow___int_int__f5f7.m] at hM
 refine wp_seq <| wp_region_list <| st1 hS (asg rfl) rfl fun a w hS => ?_
 obtain ⟨f3103, hV3104, hS⟩ := hS.nilV 3 (ci .i64) 1
 refine wpList_nil <| then_n <| wp_seq <| wp_seq <| wp_region_list <| st1 hS (mv rfl) rfl fun a w hS => st1 hS (bin rfl rfl rfl) rfl fun a w hS => wpList_nil <| then_n <| s_cond hS rfl hM (fun hb3105 hM => ?_) (fun hb3105 hM => ?_)
 ·refine wp_region_list ?_
  refine st1 hS (mkI rfl Tryd.runUnderlying9 rfl) rfl fun a w hS => s_panic hS rfl <| then_pan ?_
  exact ⟨hS.ev.defs, hpan _ _ (wp_pan hM) hS.st.frame⟩
 ·refine wp_skip ?_
  refine then_n <| wp_seq <| wp_seq <| wp_region_list <| st1 hS (mv rfl) rfl fun a w hS => st1 hS (mv rfl) rfl fun a w hS => st1 hS (capN rfl Tryd.runUnderlying45) rfl fun a w hS => st1 hS (mv rfl) rfl fun a w hS => st1 hS (lenV rfl Tryd.runUnderlying45) rfl fun a w hS => st1 hS (bin rfl rfl rfl) rfl fun a w hS => st1 hS (bin rfl rfl rfl) rfl fun a w hS => st1x (v := Value.int .i64) (x0 := (w64 (n_3102 - (w64 ((0 : Int) - (0 : Int)))))) hS (asg rfl) rfl fun n_3106 a w hz hS => ?_
  have hM := lt_to hz hM; clear hz
  refine wpList_nil <| then_n <| wp_seq <| wp_region_list <| st1 hS (mv rfl) rfl fun a w hS => st1 hS (bin rfl rfl rfl) rfl fun a w hS => wpList_nil <| then_n <| s_cond hS rfl hM (fun hb3107 hM => ?_) (fun hb3107 hM => ?_)
  ·refine wp_region_list ?_
   refine st1 hS (mv rfl) rfl fun a w hS => st1 hS (mv rfl) rfl fun a w hS => st1 hS (capN rfl Tryd.runUnderlying45) rfl fun a w hS => st1 hS (slN rfl Tryd.runUnderlying45 Tryd.sizeOf3 (hiS rfl)) rfl fun a w hS => st1 hS (mv rfl) rfl fun a w hS => ?_
   obtain ⟨hk3108, hM⟩ := wp_chk hM
   refine apG (g := (ci .i64)) hS rfl rfl Tryd.runUnderlying45 Tryd.runUnderlying3 X.el3 rfl rfl hk3108 rfl fun w A3109 c3110 f3111 hV3112 hc3113 hA3114 hS => st1 hS (mv rfl) rfl fun a w hS => st1 hS (lenV rfl Tryd.runUnderlying45) rfl fun a w hS => st1 hS (slG rfl Tryd.runUnderlying45 Tryd.sizeOf3 (fun _ => hiS rfl) hc3113 hA3114) rfl fun a w hS => st1 hS (asg rfl) rfl fun a w hS => wpList_nil <| then_n <| wp_seq <| wp_region_list <| st1 hS (mv rfl) rfl fun a w hS => st1 hS (asg rfl) rfl fun a w hS => wpList_nil <| then_n <| wp_ret ?_
   exact s_ret (rs := [4]) hS rfl rfl (hret A3109 c3110 f3111 w (wp_ok hM) hV3112 (hS.st.pick [0] (by kernel_rfl)))
  ·refine wp_skip ?_
   refine then_n <| wp_seq <| wp_region_list <| st1 hS (mv rfl) rfl fun a w hS => st1 hS (asg rfl) rfl fun a w hS => ?_
   obtain ⟨f3115, hV3116, hS⟩ := hS.nilV 3 (ci .i64) 1
   refine wpList_nil <| then_n <| wp_ret ?_
   exact s_ret (rs := [4]) hS rfl rfl (hret none (0) f3115 w (wp_ok hM) hV3116 (hS.st.pick [0] (by kernel_rfl)))

theorem slices_Concat___int_int__c {H : Imm} {F : List Frag} {w : World} {R : Ending → World → Prop} {kr : (List Int) → Prop} {kp : Value → Prop} (hG : Gl H) (K : Nat) (slices3076 : List (List Int)) (p3077 : Frag) (A3078 : Option Addr) (c3079 : Nat) (rw3080 : List (Row 1)) (hr3081 : RelL (R_s_int p3077) slices3076 rw3080) (hp3082 : Pl p3077 (Row.v (sz := 1)) A3078 rw3080) (hc3083 : rw3080.length ≤ c3079)
    (hS : St w H [p3077] F) (hm : (slices_Concat___int_int_.m K slices3076).wp kr kp)
    (hret : ∀ (A3167 : Option Addr) (c3168 : Nat) (x3169 : (List Int)) (f3170 : Frag) (w : World), kr x3169 → (Vec 3 (ci .i64) 1 A3167 x3169 c3168 f3170) → St w H [p3077, f3170] F → R (.returned (.slice A3167 x3169.length c3168)) w)
    (hpan : ∀ v w, kp v → St w H [] F → R (.panicked [⟨v, false, false⟩]) w) :
    Calls Tryd.prog 85 ⟨[.slice A3078 rw3080.length c3079]⟩ w R := by
 refine enter Tryd.func85 rfl Tryd.ntmps85 rfl hS fun a w hS => ?_
 have hM := hm; clear hm
 rw [slices_Concat___int_int_.m] at hM
 have hs3084 : ∀ q ∈ p3077, q ∈ p3077 := fun _ h => h
 refine wp_seq <| wp_region_list <| st1 hS (asg rfl) rfl fun a w hS => ?_
 obtain ⟨f3085, hV3086, hS⟩ := hS.nilV 3 (ci .i64) 1
 refine wpList_nil <| then_n <| wp_seq <| wp_region_list <| st1 hS (asg rfl) rfl fun a w hS => wpList_nil <| then_n <| seq_joinJ (fun a w => ∃ (size3100 : Int), Ss 36 [] [(0, .slice A3078 rw3080.length c3079), (3, .int .i64 size3100)] H [p3077] F a w ∧ (slices_Concat___int_int_.j2 K slices3076 size3100).wp kr kp) (fun J3101 hJ3101 => ?_) ?_
 ·refine wp_seq ?_
  refine wp_region_list <| st1 hS (mv rfl) rfl fun a w hS => st1 hS (ovE (v' := .int .i64 (slices3076.length : Int)) (lenV rfl Tryd.runUnderlying167) (by rw [hr3081.len])) rfl fun a w hS => st1 hS (mv rfl) rfl fun a w hS => wpList_nil <| then_n <| wp_block <| s_loopJ (fun k3089 a w => ∃ (size3087 : Int) (v3088 : Int), Ss 36 [] [(0, .slice A3078 rw3080.length c3079), (3, .int .i64 size3087), (9, .slice A3078 rw3080.length c3079), (10, .int .i64 (slices3076.length : Int)), (11, .int .i64 v3088)] H [p3077] F a w ∧ (slices_Concat___int_int_.l1 K slices3076 k3089 size3087 v3088).wp kr kp) K ?_ ?_ ?_
  ·exact ⟨(0 : Int), (0 : Int), hS.to [1] (by kernel_rfl) ⟨rfl, rfl, rfl, rfl, rfl, trivial⟩, hM⟩
  ·intro a w hI; obtain ⟨_, _, _, hM⟩ := hI; exact wp_fail hM
  ·intro k3089 a w hI J3099 hJ3099
   obtain ⟨size3087, v3088, hS, hM⟩ := hI
   rw [slices_Concat___int_int_.l1] at hM
   refine wp_seq <| wp_region_list <| st1 hS (bin rfl rfl rfl) rfl fun a w hS => wpList_nil <| then_n <| wp_seq <| s_cond hS rfl hM (fun hb3090 hM => ?_) (fun hb3090 hM => ?_)
   ·refine wp_skip ?_
    refine then_n <| wp_seq <| wp_block <| wp_seq <| wp_region_list ?_
    obtain ⟨hk3091, hM⟩ := wp_chk hM
    refine st1 hS (ixV rfl rfl Tryd.runUnderlying167 Tryd.sizeOf45 (hp3082.rd (i := 0) rfl) Row.len rfl (hr3081.inb hk3091)) rfl fun a w hS => ?_
    obtain ⟨A3092, c3093, hw3096, hp3094, hc3095⟩ := hr3081.get hk3091
    refine st1 hS (ldV0 rfl (hp3082.rd (i := 0) rfl) Row.len (hr3081.inb hk3091) (by rw [show Row.v (rd rw3080 v3088) = _ from hw3096]; rfl) Tryd.isAgg45) rfl fun a w hS => st1 hS (asg rfl) rfl fun a w hS => wpList_nil <| then_n <| wp_seq <| wp_region_list <| st1 hS (mv rfl) rfl fun a w hS => st1 hS (mv rfl) rfl fun a w hS => st1 hS (lenV rfl Tryd.runUnderlying45) rfl fun a w hS => st1 hS (bin rfl rfl rfl) rfl fun a w hS => st1x (v := Value.int .i64) (x0 := (w64 (size3087 + ((rd slices3076 v3088).length : Int)))) hS (asg rfl) rfl fun size3097 a w hz hS => ?_
    have hM := lt_to hz hM; clear hz
    refine wpList_nil <| then_n <| wp_seq <| wp_region_list <| st1 hS (mv rfl) rfl fun a w hS => st1 hS (bin rfl rfl rfl) rfl fun a w hS => wpList_nil <| then_n <| s_cond hS rfl hM (fun hb3098 hM => ?_) (fun hb3098 hM => ?_)
    ·refine wp_region_list ?_
     refine st1 hS (mkI rfl Tryd.runUnderlying9 rfl) rfl fun a w hS => s_panic hS rfl <| blk_pan (then_pan (then_pan (blk_pan (then_pan ?_))))
     exact ⟨hS.ev.defs, hpan _ _ (wp_pan hM) hS.st.frame⟩
    ·refine wp_skip ?_
     refine blk_n (then_n ?_)
     refine wp_region_list <| st1 hS (bin rfl rfl rfl) rfl fun a w hS => st1 hS (mv rfl) rfl fun a w hS => wpList_nil <| then_n ?_
     exact hJ3099 _ _ ⟨size3097, (w64 (v3088 + (1 : Int))), hS.to [0] (by kernel_rfl) ⟨rfl, rfl, rfl, rfl, rfl, trivial⟩, hM⟩
   ·refine wp_exit ?_
    refine then_ex (then_ex (blk_same (then_n ?_)))
    exact hJ3101 _ _ ⟨size3087, hS.to [0] (by kernel_rfl) ⟨rfl, rfl, trivial⟩, hM⟩
 ·intro a w hI
  obtain ⟨size3100, hS, hM⟩ := hI
  rw [slices_Concat___int_int_.j2] at hM
  refine wp_seq <| wp_region_list <| st1 hS (mv rfl) rfl fun a w hS => s_call hS rfl Tryd.call102 (slices_Grow___int_int__f5f7_c hG K size3100 (hS.st.part 0 [0] (by kernel_rfl)) (wp_bind hM) (fun A3121 c3122 f3123 w hM h3124 hst => s_back hS.ev hst.appF rfl fun hS => ?_) (fun v w hk hst => s_pan (then_pan (⟨hS.ev.defs, hpan _ _ hk hst.appF.frame⟩))))
  replace hS : Ss _ _ _ H [f3123, p3077] F _ _ := hS
  refine st1 hS (asg rfl) rfl fun a w hS => wpList_nil <| then_n <| wp_seq <| wp_seq <| wp_region_list <| st1 hS (mv rfl) rfl fun a w hS => st1 hS (ovE (v' := .int .i64 (slices3076.length : Int)) (lenV rfl Tryd.runUnderlying167) (by rw [hr3081.len])) rfl fun a w hS => st1 hS (mv rfl) rfl fun a w hS => wpList_nil <| then_n <| wp_block <| s_loopJ (fun k3152 a w => ∃ (A3146 : Option Addr) (c3147 : Nat) (newslice3148 : (List Int)) (f3149 : Frag) (v3151 : Int), Ss 36 [] [(6, .slice A3146 newslice3148.length c3147), (25, .slice A3078 rw3080.length c3079), (26, .int .i64 (slices3076.length : Int)), (27, .int .i64 v3151)] H [p3077, f3149] F a w ∧ (Vec 3 (ci .i64) 1 A3146 newslice3148 c3147 f3149) ∧ (slices_Concat___int_int_.l3 K slices3076 k3152 newslice3148 v3151).wp kr kp) K ?_ ?_ ?_
  ·exact ⟨A3121, c3122, ([] : List Int), f3123, (0 : Int), hS.to [1, 0] (by kernel_rfl) ⟨rfl, rfl, rfl, rfl, trivial⟩, h3124, hM⟩
  ·intro a w hI; obtain ⟨_, _, _, _, _, _, _, hM⟩ := hI; exact wp_fail hM
  ·intro k3152 a w hI J3166 hJ3166
   obtain ⟨A3146, c3147, newslice3148, f3149, v3151, hS, hV3150, hM⟩ := hI
   rw [slices_Concat___int_int_.l3] at hM
   refine wp_seq <| wp_region_list <| st1 hS (bin rfl rfl rfl) rfl fun a w hS => wpList_nil <| then_n <| wp_seq <| s_cond hS rfl hM (fun hb3153 hM => ?_) (fun hb3153 hM => ?_)
   ·refine wp_skip ?_
    refine then_n <| wp_seq <| wp_block <| wp_seq <| wp_region_list ?_
    obtain ⟨hk3154, hM⟩ := wp_chk hM
    refine st1 hS (ixV rfl rfl Tryd.runUnderlying167 Tryd.sizeOf45 (hp3082.rd (i := 0) rfl) Row.len rfl (hr3081.inb hk3154)) rfl fun a w hS => ?_
    obtain ⟨A3155, c3156, hw3159, hp3157, hc3158⟩ := hr3081.get hk3154
    refine st1 hS (ldV0 rfl (hp3082.rd (i := 0) rfl) Row.len (hr3081.inb hk3154) (by rw [show Row.v (rd rw3080 v3151) = _ from hw3159]; rfl) Tryd.isAgg45) rfl fun a w hS => st1 hS (asg rfl) rfl fun a w hS => wpList_nil <| then_n <| wp_region_list <| st1 hS (mv rfl) rfl fun a w hS => st1 hS (mv rfl) rfl fun a w hS => ?_
    obtain ⟨hk3160, hM⟩ := wp_chk hM
    refine apV (ys := (rd slices3076 v3151)) 1 hS rfl rfl hV3150 rfl (hp3157.rd (i := 0) rfl) Tryd.runUnderlying45 Tryd.runUnderlying45 X.el3 (fun _ => rfl) rfl one_t3 hk3160 rfl fun zs3165 w A3161 c3162 f3163 hz hV3164 hS => ?_
    have hM := lt_to hz hM; clear hz
    refine st1 hS (asg rfl) rfl fun a w hS => wpList_nil <| blk_n (then_n ?_)
    refine wp_region_list <| st1 hS (bin rfl rfl rfl) rfl fun a w hS => st1 hS (mv rfl) rfl fun a w hS => wpList_nil <| then_n ?_
    exact hJ3166 _ _ ⟨A3161, c3162, zs3165, f3163, (w64 (v3151 + (1 : Int))), hS.to [0, 1] (by kernel_rfl) ⟨rfl, rfl, rfl, rfl, trivial⟩, hV3164, hM⟩
   ·refine wp_exit ?_
    refine then_ex (then_ex (blk_same (then_n ?_)))
    refine wp_seq <| wp_region_list <| st1 hS (mv rfl) rfl fun a w hS => st1 hS (asg rfl) rfl fun a w hS => wpList_nil <| then_n <| wp_ret ?_
    exact s_ret (rs := [2]) hS rfl rfl (hret A3146 c3147 newslice3148 f3149 w (wp_ok hM) hV3150 (hS.st.pick [0, 1] (by kernel_rfl)))

theorem huff_pairs_c {H : Imm} {F : List Frag} {w : World} {R : Ending → World → Prop} {kr : (List T_huff_packet) → Prop} {kp : Value → Prop} (hG : Gl H) (K : Nat) (l_3023 : List T_huff_packet) (p3024 : Frag) (A3025 : Option Addr) (c3026 : Nat) (rw3027 : List (Row 2)) (hr3028 : RelL (R_huff_packet p3024) l_3023 rw3027) (hp3029 : Pl p3024 (Row.v (sz := 2)) A3025 rw3027) (hc3030 : rw3027.length ≤ c3026)
    (hS : St w H [p3024] F) (hm : (huff_pairs.m K l_3023).wp kr kp)
    (hret : ∀ (p3286 : Frag) (A3288 : Option Addr) (c3289 : Nat) (rw3290 : List (Row 2)) (x3291 : (List T_huff_packet)) (f3292 : Frag) (w : World), kr x3291 → (∀ q ∈ p3024, q ∈ p3286) → (Vec 112 (Row.v (sz := 2)) 2 A3288 rw3290 c3289 f3292) → (RelL (R_huff_packet p3286) x3291 rw3290) → St w H [p3286, f3292] F → R (.returned (.slice A3288 rw3290.length c3289)) w)
    (hpan : ∀ v w, kp v → St w H [] F → R (.panicked [⟨v, false, false⟩]) w) :
    Calls Tryd.prog 60 ⟨[.slice A3025 rw3027.length c3026]⟩ w R := by
 refine enter Tryd.func60 rfl Tryd.ntmps60 rfl hS fun a w hS => ?_
 have hM := hm; clear hm
 rw [huff_pairs.m] at hM
 have hs3031 : ∀ q ∈ p3024, q ∈ p3024 := fun _ h => h
 refine wp_seq <| wp_region_list <| st1 hS (asg rfl) rfl fun a w hS => ?_
 obtain ⟨f3032, hV3033, hS⟩ := hS.nilV 112 (Row.v (sz := 2)) 2
 have hr3034 : RelL (R_huff_packet p3024) ([] : List T_huff_packet) ([] : List (Row 2)) := RelL.nil
 refine wpList_nil <| then_n <| wp_seq <| wp_region_list <| st1 hS (asg rfl) rfl fun a w hS => ?_
 obtain ⟨f3035, hV3036, hS⟩ := hS.nilV 112 (Row.v (sz := 2)) 2
 have hr3037 : RelL (R_huff_packet p3024) ([] : List T_huff_packet) ([] : List (Row 2)) := RelL.nil
 refine wpList_nil <| then_n <| wp_seq <| wp_seq <| wp_region_list <| st1 hS (asg rfl) rfl fun a w hS => wpList_nil <| then_n <| wp_block <| s_loopJ (fun k3223 a w => ∃ (p3210 : Frag) (A3215 : Option Addr) (c3216 : Nat) (rw3217 : List (Row 2)) (out3218 : (List T_huff_packet)) (f3219 : Frag) (i3222 : Int), Ss 42 [] [(0, .slice A3025 rw3027.length c3026), (3, .slice A3215 rw3217.length c3216), (4, .int .i64 i3222)] H [p3210, f3219] F a w ∧ (∀ q ∈ p3024, q ∈ p3210) ∧ (RelL (R_huff_packet p3210) l_3023 rw3027) ∧ (Pl p3210 (Row.v (sz := 2)) A3025 rw3027) ∧ (rw3027.length ≤ c3026) ∧ (Vec 112 (Row.v (sz := 2)) 2 A3215 rw3217 c3216 f3219) ∧ (RelL (R_huff_packet p3210) out3218 rw3217) ∧ (huff_pairs.l1 K l_3023 k3223 out3218 i3222).wp kr kp) K ?_ ?_ ?_
 ·exact ⟨p3024, none, 0, ([] : List (Row 2)), ([] : List T_huff_packet), f3035, (0 : Int), hS.to [2, 0] (by kernel_rfl) ⟨rfl, rfl, rfl, trivial⟩, hs3031, hr3028, hp3029, hc3030, hV3036, hr3037, hM⟩
 ·intro a w hI; obtain ⟨_, _, _, _, _, _, _, _, _, _, _, _, _, _, hM⟩ := hI; exact wp_fail hM
 ·intro k3223 a w hI J3285 hJ3285
  obtain ⟨p3210, A3215, c3216, rw3217, out3218, f3219, i3222, hS, hs3211, hr3212, hp3213, hc3214, hV3220, hr3221, hM⟩ := hI
  rw [huff_pairs.l1] at hM
  refine wp_seq <| wp_seq <| wp_region_list <| st1 hS (mv rfl) rfl fun a w hS => st1 hS (bin rfl rfl rfl) rfl fun a w hS => st1 hS (mv rfl) rfl fun a w hS => st1 hS (ovE (v' := .int .i64 (l_3023.length : Int)) (lenV rfl Tryd.runUnderlying110) (by rw [hr3212.len])) rfl fun a w hS => st1 hS (bin rfl rfl rfl) rfl fun a w hS => wpList_nil <| then_n <| s_cond hS rfl hM (fun hb3224 hM => ?_) (fun hb3224 hM => ?_)
  ·refine wp_skip ?_
   refine then_n <| wp_seq <| wp_block ?_
   obtain ⟨hk3226, hM⟩ := wp_chk hM
   obtain ⟨A3227, c3228, hw3231, hp3229, hc3230⟩ := hr3212.get hk3226
   obtain ⟨hk3233, hM⟩ := wp_chk hM
   obtain ⟨A3234, c3235, hw3238, hp3236, hc3237⟩ := hr3212.get hk3233
   obtain ⟨A3239, c3240, hw3243, hp3241, hc3242⟩ := hr3212.get hk3226
   obtain ⟨A3244, c3245, hw3248, hp3246, hc3247⟩ := hr3212.get hk3233
   refine draw_begin (vals := [some (.slice A3215 rw3217.length c3216), some (.slice A3025 rw3027.length c3026), some (.int .i64 i3222), some (slp A3025 (Int.toNat i3222 * 2)), some (slp A3025 (Int.toNat i3222 * 2 + 0)), some (.int .i64 ((rd l_3023 i3222).often_)), some (.slice A3025 rw3027.length c3026), some (.int .i64 i3222), some (.int .i64 (w64 (i3222 + (1 : Int)))), some (slp A3025 (Int.toNat (w64 (i3222 + (1 : Int))) * 2)), some (slp A3025 (Int.toNat (w64 (i3222 + (1 : Int))) * 2 + 0)), some (.int .i64 ((rd l_3023 (w64 (i3222 + (1 : Int)))).often_)), some (.int .i64 (w64 ((rd l_3023 i3222).often_ + (rd l_3023 (w64 (i3222 + (1 : Int)))).often_))), some (.slice A3025 rw3027.length c3026), some (.int .i64 i3222), some (slp A3025 (Int.toNat i3222 * 2)), some (slp A3025 (Int.toNat i3222 * 2 + 1)), some (.slice A3239 ((rd l_3023 i3222).symbols_).length c3240), some (.slice A3025 rw3027.length c3026), some (.int .i64 i3222), some (.int .i64 (w64 (i3222 + (1 : Int)))), some (slp A3025 (Int.toNat (w64 (i3222 + (1 : Int))) * 2)), some (slp A3025 (Int.toNat (w64 (i3222 + (1 : Int))) * 2 + 1)), some (.slice A3244 ((rd l_3023 (w64 (i3222 + (1 : Int)))).symbols_).length c3245), none, none, none, none, none, none]) hS mixed rfl ?_
   intro l w ho hcl hA hst
   refine phq hA hst ho hcl navail nmust 24 [0, 1, 2, 3, 4, 5, 6, 7, 8, 9, 10, 11, 12, 13, 14, 15, 16, 17, 18, 19, 20, 21, 22, 23] rfl rfl rfl rfl rfl (by exact ⟨nR rfl rfl rfl rfl rfl (by exact ovE (mv rfl) rfl), nR rfl rfl rfl rfl rfl (by exact ovE (mv rfl) rfl), nR rfl rfl rfl rfl rfl (by exact ovE (mv rfl) rfl), nR rfl rfl rfl rfl rfl (by exact ovE (ixV rfl rfl Tryd.runUnderlying110 Tryd.sizeOf112 (hp3213.rd (i := 0) rfl) Row.len rfl (hr3212.inb hk3226)) rfl), nR rfl rfl rfl rfl rfl (by exact ovE (fadV rfl (hp3213.rd (i := 0) rfl) Row.len rfl (hr3212.inb hk3226) Tryd.runUnderlying112 rfl Tryd.sizeOf3 rfl) rfl), nR rfl rfl rfl rfl rfl (by exact ovE (ldV 0 rfl (hp3213.rd (i := 0) rfl) Row.len (hr3212.inb hk3226) (by rw [show Row.v (rd rw3027 i3222) = _ from hw3231]; rfl) Tryd.isAgg3) rfl), nR rfl rfl rfl rfl rfl (by exact ovE (mv rfl) rfl), nR rfl rfl rfl rfl rfl (by exact ovE (mv rfl) rfl), nR rfl rfl rfl rfl rfl (by exact ovE (bin rfl rfl rfl) rfl), nR rfl rfl rfl rfl rfl (by exact ovE (ixV rfl rfl Tryd.runUnderlying110 Tryd.sizeOf112 (hp3213.rd (i := 0) rfl) Row.len rfl (hr3212.inb hk3233)) rfl), nR rfl rfl rfl rfl rfl (by exact ovE (fadV rfl (hp3213.rd (i := 0) rfl) Row.len rfl (hr3212.inb hk3233) Tryd.runUnderlying112 rfl Tryd.sizeOf3 rfl) rfl), nR rfl rfl rfl rfl rfl (by exact ovE (ldV 0 rfl (hp3213.rd (i := 0) rfl) Row.len (hr3212.inb hk3233) (by rw [show Row.v (rd rw3027 (w64 (i3222 + (1 : Int)))) = _ from hw3238]; rfl) Tryd.isAgg3) rfl), nR rfl rfl rfl rfl rfl (by exact ovE (bin rfl rfl rfl) rfl), nR rfl rfl rfl rfl rfl (by exact ovE (mv rfl) rfl), nR rfl rfl rfl rfl rfl (by exact ovE (mv rfl) rfl), nR rfl rfl rfl rfl rfl (by exact ovE (ixV rfl rfl Tryd.runUnderlying110 Tryd.sizeOf112 (hp3213.rd (i := 0) rfl) Row.len rfl (hr3212.inb hk3226)) rfl), nR rfl rfl rfl rfl rfl (by exact ovE (fadV rfl (hp3213.rd (i := 0) rfl) Row.len rfl (hr3212.inb hk3226) Tryd.runUnderlying112 rfl Tryd.sizeOf45 rfl) rfl), nR rfl rfl rfl rfl rfl (by exact ovE (ldV 1 rfl (hp3213.rd (i := 0) rfl) Row.len (hr3212.inb hk3226) (by rw [show Row.v (rd rw3027 i3222) = _ from hw3243]; rfl) Tryd.isAgg45) rfl), nR rfl rfl rfl rfl rfl (by exact ovE (mv rfl) rfl), nR rfl rfl rfl rfl rfl (by exact ovE (mv rfl) rfl), nR rfl rfl rfl rfl rfl (by exact ovE (bin rfl rfl rfl) rfl), nR rfl rfl rfl rfl rfl (by exact ovE (ixV rfl rfl Tryd.runUnderlying110 Tryd.sizeOf112 (hp3213.rd (i := 0) rfl) Row.len rfl (hr3212.inb hk3233)) rfl), nR rfl rfl rfl rfl rfl (by exact ovE (fadV rfl (hp3213.rd (i := 0) rfl) Row.len rfl (hr3212.inb hk3233) Tryd.runUnderlying112 rfl Tryd.sizeOf45 rfl) rfl), nR rfl rfl rfl rfl rfl (by exact ovE (ldV 1 rfl (hp3213.rd (i := 0) rfl) Row.len (hr3212.inb hk3233) (by rw [show Row.v (rd rw3027 (w64 (i3222 + (1 : Int)))) = _ from hw3248]; rfl) Tryd.isAgg45) rfl), trivial⟩) fun D l a w ho hcl hav hpre hm hE hk hA hst => ?_
   have hS := (Ss.mk hE hst).env2 (e' := [(29, .slice A3239 ((rd l_3023 i3222).symbols_).length c3240), (35, .slice A3244 ((rd l_3023 (w64 (i3222 + (1 : Int)))).symbols_).length c3245)]) ⟨rfl, rfl, trivial⟩
   refine op_of_nth rfl ?_
   obtain ⟨rw3254, hrw⟩ : ∃ r, r = ([(⟨[.slice A3239 ((rd l_3023 i3222).symbols_).length c3240], by simp, by simp [Value.oneCell']⟩ : Row 1), (⟨[.slice A3244 ((rd l_3023 (w64 (i3222 + (1 : Int)))).symbols_).length c3245], by simp, by simp [Value.oneCell']⟩ : Row 1)] : List (Row 1)) := ⟨_, rfl⟩
   have hr3253 : RelL (R_s_int p3210) ([(rd l_3023 i3222).symbols_, (rd l_3023 (w64 (i3222 + (1 : Int)))).symbols_] : List (List Int)) rw3254 := by rw [hrw]; exact (RelL.cons (show R_s_int p3210 _ _ from ⟨A3239, c3240, rfl, hp3241, hc3242⟩) (RelL.cons (show R_s_int p3210 _ _ from ⟨A3244, c3245, rfl, hp3246, hc3247⟩) RelL.nil))
   refine bsl (g := (Row.v (sz := 1))) rw3254 [.slice A3239 ((rd l_3023 i3222).symbols_).length c3240, .slice A3244 ((rd l_3023 (w64 (i3222 + (1 : Int)))).symbols_).length c3245] hS Tryd.runUnderlying167 Tryd.sizeOf45 X.el45 rfl rfl rfl (by simp [Value.cells]) (by rw [hrw]; rfl) (by rw [hrw]; rfl) rfl rfl rfl fun w A3249 c3250 f3251 hV3252 hS => ?_
   clear hrw
   refine wpList_nil (then_n ?_)
   replace hst := hS.st
   obtain ⟨hcl, hmust, hav2, hA⟩ := dn (vals' := [some (.slice A3215 rw3217.length c3216), some (.slice A3025 rw3027.length c3026), some (.int .i64 i3222), some (slp A3025 (Int.toNat i3222 * 2)), some (slp A3025 (Int.toNat i3222 * 2 + 0)), some (.int .i64 ((rd l_3023 i3222).often_)), some (.slice A3025 rw3027.length c3026), some (.int .i64 i3222), some (.int .i64 (w64 (i3222 + (1 : Int)))), some (slp A3025 (Int.toNat (w64 (i3222 + (1 : Int))) * 2)), some (slp A3025 (Int.toNat (w64 (i3222 + (1 : Int))) * 2 + 0)), some (.int .i64 ((rd l_3023 (w64 (i3222 + (1 : Int)))).often_)), some (.int .i64 (w64 ((rd l_3023 i3222).often_ + (rd l_3023 (w64 (i3222 + (1 : Int)))).often_))), some (.slice A3025 rw3027.length c3026), some (.int .i64 i3222), some (slp A3025 (Int.toNat i3222 * 2)), some (slp A3025 (Int.toNat i3222 * 2 + 1)), some (.slice A3239 ((rd l_3023 i3222).symbols_).length c3240), some (.slice A3025 rw3027.length c3026), some (.int .i64 i3222), some (.int .i64 (w64 (i3222 + (1 : Int)))), some (slp A3025 (Int.toNat (w64 (i3222 + (1 : Int))) * 2)), some (slp A3025 (Int.toNat (w64 (i3222 + (1 : Int))) * 2 + 1)), some (.slice A3244 ((rd l_3023 (w64 (i3222 + (1 : Int)))).symbols_).length c3245), some (.slice A3249 rw3254.length c3250), none, none, none, none, none]) 24 [(17, 24), (23, 24), (16, 17), (22, 23), (15, 16), (21, 22), (13, 15), (14, 15), (18, 21), (20, 21), (19, 20)] hA hcl hav hm hpre hk rfl rfl rfl rfl rfl rfl rfl
   clear hm hav
   refine phq hA hst ho hcl hav2 hmust 25 [0, 1, 2, 3, 4, 5, 6, 7, 8, 9, 10, 11, 12] rfl rfl rfl rfl rfl (by exact ⟨nR rfl rfl rfl rfl rfl (by exact ovE (mv rfl) rfl), nR rfl rfl rfl rfl rfl (by exact ovE (mv rfl) rfl), nR rfl rfl rfl rfl rfl (by exact ovE (mv rfl) rfl), nR rfl rfl rfl rfl rfl (by exact ovE (ixV rfl rfl Tryd.runUnderlying110 Tryd.sizeOf112 (hp3213.rd (i := 1) rfl) Row.len rfl (hr3212.inb hk3226)) rfl), nR rfl rfl rfl rfl rfl (by exact ovE (fadV rfl (hp3213.rd (i := 1) rfl) Row.len rfl (hr3212.inb hk3226) Tryd.runUnderlying112 rfl Tryd.sizeOf3 rfl) rfl), nR rfl rfl rfl rfl rfl (by exact ovE (ldV 0 rfl (hp3213.rd (i := 1) rfl) Row.len (hr3212.inb hk3226) (by rw [show Row.v (rd rw3027 i3222) = _ from hw3231]; rfl) Tryd.isAgg3) rfl), nR rfl rfl rfl rfl rfl (by exact ovE (mv rfl) rfl), nR rfl rfl rfl rfl rfl (by exact ovE (mv rfl) rfl), nR rfl rfl rfl rfl rfl (by exact ovE (bin rfl rfl rfl) rfl), nR rfl rfl rfl rfl rfl (by exact ovE (ixV rfl rfl Tryd.runUnderlying110 Tryd.sizeOf112 (hp3213.rd (i := 1) rfl) Row.len rfl (hr3212.inb hk3233)) rfl), nR rfl rfl rfl rfl rfl (by exact ovE (fadV rfl (hp3213.rd (i := 1) rfl) Row.len rfl (hr3212.inb hk3233) Tryd.runUnderlying112 rfl Tryd.sizeOf3 rfl) rfl), nR rfl rfl rfl rfl rfl (by exact ovE (ldV 0 rfl (hp3213.rd (i := 1) rfl) Row.len (hr3212.inb hk3233) (by rw [show Row.v (rd rw3027 (w64 (i3222 + (1 : Int)))) = _ from hw3238]; rfl) Tryd.isAgg3) rfl), nR rfl rfl rfl rfl rfl (by exact ovE (bin rfl rfl rfl) rfl), trivial⟩) fun D l a w ho hcl hav hpre hm hE hk hA hst => ?_
   have hS := (Ss.mk hE hst).env2 (e' := [(36, .slice A3249 rw3254.length c3250)]) ⟨rfl, trivial⟩
   refine op_of_nth rfl ?_
   replace hS := hS.front [0, 1, 2] (by kernel_rfl)
   obtain ⟨p3255, hs3256, hs3257, hS⟩ := hS.poolF
   have hc3259 := hV3252.cap Row.len rfl
   have hp3258 := hV3252.pl.mono hs3256
   replace hp3213 := hp3213.mono hs3257
   replace hp3241 := hp3241.mono hs3257
   replace hp3246 := hp3246.mono hs3257
   replace hr3212 := RelL.mono (fun _ _ h => R_huff_packet.mono hs3257 h) hr3212
   replace hr3221 := RelL.mono (fun _ _ h => R_huff_packet.mono hs3257 h) hr3221
   replace hr3253 := RelL.mono (fun _ _ h => R_s_int.mono hs3257 h) hr3253
   replace hs3211 := fun q h => hs3257 q (hs3211 q h)
   refine s_call hS rfl Tryd.call85 (slices_Concat___int_int__c hG K ([(rd l_3023 i3222).symbols_, (rd l_3023 (w64 (i3222 + (1 : Int)))).symbols_] : List (List Int)) p3255 A3249 c3250 rw3254 hr3253 hp3258 hc3259 (hS.st.part 1 [0, 1] (by kernel_rfl)) (wp_bind hM) (fun A3260 c3261 x3262 f3263 w hM h3264 hst => s_back hS.ev hst.appF rfl fun hS => ?_) (fun v w hk hst => s_pan (then_pan (blk_pan (then_pan (then_pan (blk_pan (then_pan (⟨hS.ev.defs, hpan _ _ hk hst.appF.frame⟩)))))))))
   replace hS : Ss _ _ _ H [p3255, f3263, f3219] F _ _ := hS
   refine wpList_nil (then_n ?_)
   replace hst := hS.st
   obtain ⟨hcl, hmust, hav2, hA⟩ := dn (vals' := [some (.slice A3215 rw3217.length c3216), some (.slice A3025 rw3027.length c3026), some (.int .i64 i3222), some (slp A3025 (Int.toNat i3222 * 2)), some (slp A3025 (Int.toNat i3222 * 2 + 0)), some (.int .i64 ((rd l_3023 i3222).often_)), some (.slice A3025 rw3027.length c3026), some (.int .i64 i3222), some (.int .i64 (w64 (i3222 + (1 : Int)))), some (slp A3025 (Int.toNat (w64 (i3222 + (1 : Int))) * 2)), some (slp A3025 (Int.toNat (w64 (i3222 + (1 : Int))) * 2 + 0)), some (.int .i64 ((rd l_3023 (w64 (i3222 + (1 : Int)))).often_)), some (.int .i64 (w64 ((rd l_3023 i3222).often_ + (rd l_3023 (w64 (i3222 + (1 : Int)))).often_))), some (.slice A3025 rw3027.length c3026), some (.int .i64 i3222), some (slp A3025 (Int.toNat i3222 * 2)), some (slp A3025 (Int.toNat i3222 * 2 + 1)), some (.slice A3239 ((rd l_3023 i3222).symbols_).length c3240), some (.slice A3025 rw3027.length c3026), some (.int .i64 i3222), some (.int .i64 (w64 (i3222 + (1 : Int)))), some (slp A3025 (Int.toNat (w64 (i3222 + (1 : Int))) * 2)), some (slp A3025 (Int.toNat (w64 (i3222 + (1 : Int))) * 2 + 1)), some (.slice A3244 ((rd l_3023 (w64 (i3222 + (1 : Int)))).symbols_).length c3245), some (.slice A3249 rw3254.length c3250), some (.slice A3260 x3262.length c3261), some (.agg ⟨[.int .i64 (w64 ((rd l_3023 i3222).often_ + (rd l_3023 (w64 (i3222 + (1 : Int)))).often_)), .slice A3260 x3262.length c3261]⟩), none, none, none]) 25 [(24, 25), (17, 24), (23, 24), (16, 17), (22, 23), (15, 16), (21, 22), (13, 15), (14, 15), (18, 21), (20, 21), (19, 20)] hA hcl hav hm hpre hk rfl rfl rfl rfl rfl rfl rfl
   clear hm hav
   refine phq hA hst ho hcl hav2 hmust 27 [0, 1, 2, 3, 4, 5, 6, 7, 8, 9, 10, 11, 12, 26] rfl rfl rfl rfl rfl (by exact ⟨nR rfl rfl rfl rfl rfl (by exact ovE (mv rfl) rfl), nR rfl rfl rfl rfl rfl (by exact ovE (mv rfl) rfl), nR rfl rfl rfl rfl rfl (by exact ovE (mv rfl) rfl), nR rfl rfl rfl rfl rfl (by exact ovE (ixV rfl rfl Tryd.runUnderlying110 Tryd.sizeOf112 (hp3213.rd (i := 0) rfl) Row.len rfl (hr3212.inb hk3226)) rfl), nR rfl rfl rfl rfl rfl (by exact ovE (fadV rfl (hp3213.rd (i := 0) rfl) Row.len rfl (hr3212.inb hk3226) Tryd.runUnderlying112 rfl Tryd.sizeOf3 rfl) rfl), nR rfl rfl rfl rfl rfl (by exact ovE (ldV 0 rfl (hp3213.rd (i := 0) rfl) Row.len (hr3212.inb hk3226) (by rw [show Row.v (rd rw3027 i3222) = _ from hw3231]; rfl) Tryd.isAgg3) rfl), nR rfl rfl rfl rfl rfl (by exact ovE (mv rfl) rfl), nR rfl rfl rfl rfl rfl (by exact ovE (mv rfl) rfl), nR rfl rfl rfl rfl rfl (by exact ovE (bin rfl rfl rfl) rfl), nR rfl rfl rfl rfl rfl (by exact ovE (ixV rfl rfl Tryd.runUnderlying110 Tryd.sizeOf112 (hp3213.rd (i := 0) rfl) Row.len rfl (hr3212.inb hk3233)) rfl), nR rfl rfl rfl rfl rfl (by exact ovE (fadV rfl (hp3213.rd (i := 0) rfl) Row.len rfl (hr3212.inb hk3233) Tryd.runUnderlying112 rfl Tryd.sizeOf3 rfl) rfl), nR rfl rfl rfl rfl rfl (by exact ovE (ldV 0 rfl (hp3213.rd (i := 0) rfl) Row.len (hr3212.inb hk3233) (by rw [show Row.v (rd rw3027 (w64 (i3222 + (1 : Int)))) = _ from hw3238]; rfl) Tryd.isAgg3) rfl), nR rfl rfl rfl rfl rfl (by exact ovE (bin rfl rfl rfl) rfl), nR rfl rfl rfl rfl rfl (by exact ovE (bld ([.int .i64 (w64 ((rd l_3023 i3222).often_ + (rd l_3023 (w64 (i3222 + (1 : Int)))).often_)), .slice A3260 x3262.length c3261]) [(0, 1), (1, 1)] Tryd.zeroValue112 Tryd.runUnderlying112 (by intro w; simp [Tryd.sizeOf3, Tryd.sizeOf45]) rfl rfl) rfl), trivial⟩) fun D l a w ho hcl hav hpre hm hE hk hA hst => ?_
   have hS := (Ss.mk hE hst).env2 (e' := [(38, .agg ⟨[.int .i64 (w64 ((rd l_3023 i3222).often_ + (rd l_3023 (w64 (i3222 + (1 : Int)))).often_)), .slice A3260 x3262.length c3261]⟩)]) ⟨rfl, trivial⟩
   refine op_of_nth rfl ?_
   replace hS := hS.front [1, 0, 2] (by kernel_rfl)
   obtain ⟨p3265, hs3266, hs3267, hS⟩ := hS.poolF
   have hc3269 := h3264.cap (fun _ => rfl) rfl
   have hp3268 := h3264.pl.mono hs3266
   replace hp3213 := hp3213.mono hs3267
   replace hp3241 := hp3241.mono hs3267
   replace hp3246 := hp3246.mono hs3267
   replace hp3258 := hp3258.mono hs3267
   replace hr3212 := RelL.mono (fun _ _ h => R_huff_packet.mono hs3267 h) hr3212
   replace hr3221 := RelL.mono (fun _ _ h => R_huff_packet.mono hs3267 h) hr3221
   replace hr3253 := RelL.mono (fun _ _ h => R_s_int.mono hs3267 h) hr3253
   replace hs3211 := fun q h => hs3267 q (hs3211 q h)
   obtain ⟨rw3275, hrw⟩ : ∃ r, r = ([(⟨[.int .i64 (w64 ((rd l_3023 i3222).often_ + (rd l_3023 (w64 (i3222 + (1 : Int)))).often_)), .slice A3260 x3262.length c3261], by simp, by simp [Value.oneCell']⟩ : Row 2)] : List (Row 2)) := ⟨_, rfl⟩
   have hr3274 : RelL (R_huff_packet p3265) ([(T_huff_packet.mk (w64 ((rd l_3023 i3222).often_ + (rd l_3023 (w64 (i3222 + (1 : Int)))).often_)) x3262)] : List T_huff_packet) rw3275 := by rw [hrw]; exact (RelL.cons (show R_huff_packet p3265 _ _ from ⟨A3260, c3261, rfl, hp3268, hc3269⟩) RelL.nil)
   refine bsl (g := (Row.v (sz := 2))) rw3275 [.agg ⟨[.int .i64 (w64 ((rd l_3023 i3222).often_ + (rd l_3023 (w64 (i3222 + (1 : Int)))).often_)), .slice A3260 x3262.length c3261]⟩] hS Tryd.runUnderlying110 Tryd.sizeOf112 X.el112 rfl rfl rfl (by simp [Value.cells]) (by rw [hrw]; rfl) (by rw [hrw]; rfl) rfl rfl rfl fun w A3270 c3271 f3272 hV3273 hS => ?_
   clear hrw
   refine wpList_nil (then_n ?_)
   replace hst := hS.st
   obtain ⟨hcl, hmust, hav2, hA⟩ := dn (vals' := [some (.slice A3215 rw3217.length c3216), some (.slice A3025 rw3027.length c3026), some (.int .i64 i3222), some (slp A3025 (Int.toNat i3222 * 2)), some (slp A3025 (Int.toNat i3222 * 2 + 0)), some (.int .i64 ((rd l_3023 i3222).often_)), some (.slice A3025 rw3027.length c3026), some (.int .i64 i3222), some (.int .i64 (w64 (i3222 + (1 : Int)))), some (slp A3025 (Int.toNat (w64 (i3222 + (1 : Int))) * 2)), some (slp A3025 (Int.toNat (w64 (i3222 + (1 : Int))) * 2 + 0)), some (.int .i64 ((rd l_3023 (w64 (i3222 + (1 : Int)))).often_)), some (.int .i64 (w64 ((rd l_3023 i3222).often_ + (rd l_3023 (w64 (i3222 + (1 : Int)))).often_))), some (.slice A3025 rw3027.length c3026), some (.int .i64 i3222), some (slp A3025 (Int.toNat i3222 * 2)), some (slp A3025 (Int.toNat i3222 * 2 + 1)), some (.slice A3239 ((rd l_3023 i3222).symbols_).length c3240), some (.slice A3025 rw3027.length c3026), some (.int .i64 i3222), some (.int .i64 (w64 (i3222 + (1 : Int)))), some (slp A3025 (Int.toNat (w64 (i3222 + (1 : Int))) * 2)), some (slp A3025 (Int.toNat (w64 (i3222 + (1 : Int))) * 2 + 1)), some (.slice A3244 ((rd l_3023 (w64 (i3222 + (1 : Int)))).symbols_).length c3245), some (.slice A3249 rw3254.length c3250), some (.slice A3260 x3262.length c3261), some (.agg ⟨[.int .i64 (w64 ((rd l_3023 i3222).often_ + (rd l_3023 (w64 (i3222 + (1 : Int)))).often_)), .slice A3260 x3262.length c3261]⟩), some (.slice A3270 rw3275.length c3271), none, none]) 27 [(26, 27), (12, 26), (25, 26), (5, 12), (11, 12), (24, 25), (4, 5), (10, 11), (17, 24), (23, 24), (3, 4), (9, 10), (16, 17), (22, 23), (1, 3), (2, 3), (6, 9), (8, 9), (15, 16), (21, 22), (7, 8), (13, 15), (14, 15), (18, 21), (20, 21), (19, 20)] hA hcl hav hm hpre hk rfl rfl rfl rfl rfl rfl rfl
   clear hm hav
   refine phq hA hst ho hcl hav2 hmust 28 [0] rfl rfl rfl rfl rfl (by exact ⟨nR rfl rfl rfl rfl rfl (by exact ovE (mv rfl) rfl), trivial⟩) fun D l a w ho hcl hav hpre hm hE hk hA hst => ?_
   have hS := (Ss.mk hE hst).env2 (e' := [(12, .slice A3215 rw3217.length c3216), (39, .slice A3270 rw3275.length c3271)]) ⟨rfl, rfl, trivial⟩
   refine op_of_nth rfl ?_
   obtain ⟨hk3276, hM⟩ := wp_chk hM
   refine apV (ys := rw3275) 2 hS rfl rfl hV3220 rfl (hV3273.rd (i := 0) rfl) Tryd.runUnderlying110 Tryd.runUnderlying110 X.el112 Row.len rfl one_row (hr3221.room hr3274 hk3276) rfl fun rw3281 w A3277 c3278 f3279 hz hV3280 hS => ?_
   obtain ⟨zs3282, hzm⟩ := nameE (out3218 ++ ([(T_huff_packet.mk (w64 ((rd l_3023 i3222).often_ + (rd l_3023 (w64 (i3222 + (1 : Int)))).often_)) x3262)] : List T_huff_packet))
   replace hM := lt_to hzm hM
   have hr3283 := RelL.append hr3221 hr3274
   rw [← hz, ← hzm] at hr3283; clear hz hzm
   refine wpList_nil (then_n ?_)
   replace hst := hS.st
   obtain ⟨hcl, hmust, hav2, hA⟩ := dn (vals' := [some (.slice A3215 rw3217.length c3216), some (.slice A3025 rw3027.length c3026), some (.int .i64 i3222), some (slp A3025 (Int.toNat i3222 * 2)), some (slp A3025 (Int.toNat i3222 * 2 + 0)), some (.int .i64 ((rd l_3023 i3222).often_)), some (.slice A3025 rw3027.length c3026), some (.int .i64 i3222), some (.int .i64 (w64 (i3222 + (1 : Int)))), some (slp A3025 (Int.toNat (w64 (i3222 + (1 : Int))) * 2)), some (slp A3025 (Int.toNat (w64 (i3222 + (1 : Int))) * 2 + 0)), some (.int .i64 ((rd l_3023 (w64 (i3222 + (1 : Int)))).often_)), some (.int .i64 (w64 ((rd l_3023 i3222).often_ + (rd l_3023 (w64 (i3222 + (1 : Int)))).often_))), some (.slice A3025 rw3027.length c3026), some (.int .i64 i3222), some (slp A3025 (Int.toNat i3222 * 2)), some (slp A3025 (Int.toNat i3222 * 2 + 1)), some (.slice A3239 ((rd l_3023 i3222).symbols_).length c3240), some (.slice A3025 rw3027.length c3026), some (.int .i64 i3222), some (.int .i64 (w64 (i3222 + (1 : Int)))), some (slp A3025 (Int.toNat (w64 (i3222 + (1 : Int))) * 2)), some (slp A3025 (Int.toNat (w64 (i3222 + (1 : Int))) * 2 + 1)), some (.slice A3244 ((rd l_3023 (w64 (i3222 + (1 : Int)))).symbols_).length c3245), some (.slice A3249 rw3254.length c3250), some (.slice A3260 x3262.length c3261), some (.agg ⟨[.int .i64 (w64 ((rd l_3023 i3222).often_ + (rd l_3023 (w64 (i3222 + (1 : Int)))).often_)), .slice A3260 x3262.length c3261]⟩), some (.slice A3270 rw3275.length c3271), some (.slice A3277 rw3281.length c3278), some (.slice A3277 rw3281.length c3278)]) 28 [(0, 28), (25, 28), (27, 28), (24, 25), (26, 27), (17, 24), (23, 24), (12, 26), (16, 17), (22, 23), (5, 12), (11, 12), (15, 16), (21, 22), (4, 5), (10, 11), (13, 15), (14, 15), (18, 21), (20, 21), (3, 4), (9, 10), (19, 20), (1, 3), (2, 3), (6, 9), (8, 9), (7, 8)] hA hcl hav hm hpre hk rfl rfl rfl rfl rfl rfl rfl
   clear hm hav
   refine phqE hA hst ho hcl hmust [29] rfl rfl rfl (by exact ⟨nR rfl rfl rfl rfl rfl (by exact ovE (asg rfl) rfl), trivial⟩) fun a w hS => ?_
   replace hS := hS.env2 (e' := [(0, .slice A3025 rw3027.length c3026), (3, .slice A3277 rw3281.length c3278), (4, .int .i64 i3222)]) ⟨rfl, rfl, rfl, trivial⟩
   refine blk_n (then_n ?_)
   refine wp_region_list <| st1 hS (mv rfl) rfl fun a w hS => st1 hS (bin rfl rfl rfl) rfl fun a w hS => st1x (v := Value.int .i64) (x0 := (w64 (i3222 + (2 : Int)))) hS (asg rfl) rfl fun i3284 a w hz hS => ?_
   have hM := lt_to hz hM; clear hz
   refine wpList_nil <| then_n ?_
   exact hJ3285 _ _ ⟨p3265, A3277, c3278, rw3281, zs3282, f3279, i3284, hS.to [1, 2] (by kernel_rfl) ⟨rfl, rfl, rfl, trivial⟩, hs3211, hr3212, hp3213, hc3214, hV3280, hr3283, hM⟩
  ·refine wp_exit ?_
   refine then_ex (then_ex (blk_same (then_n ?_)))
   refine wp_seq <| wp_region_list <| st1 hS (mv rfl) rfl fun a w hS => st1 hS (asg rfl) rfl fun a w hS => wpList_nil <| then_n <| wp_ret ?_
   exact s_ret (rs := [2]) hS rfl rfl (hret p3210 A3215 c3216 rw3217 out3218 f3219 w (wp_ok hM) hs3211 hV3220 hr3221 (hS.st.pick [0, 1] (by kernel_rfl)))

def R_s_huff_packet (p : Frag) (x : (List T_huff_packet)) (vs : List Value) : Prop :=
  ∃ (A0 : Option Addr) (c0 : Nat) (r0 : List (Row 2)), vs = [.slice A0 r0.length c0] ∧ RelL (R_huff_packet p) x r0 ∧ Pl p (Row.v (sz := 2)) A0 r0 ∧ r0.length ≤ c0
theorem R_s_huff_packet.mono {p p' : Frag} (hs : ∀ q ∈ p, q ∈ p') {x : (List T_huff_packet)} {vs : List Value} (h : R_s_huff_packet p x vs) : R_s_huff_packet p' x vs := by
  obtain ⟨A0, c0, r0, h0, h1, h2, h3⟩ := h
  exact ⟨A0, c0, r0, h0, RelL.mono (fun _ _ h => R_huff_packet.mono hs h) h1, h2.mono hs, h3⟩

theorem slices_Grow___huff_packet_huff_packet__8ef0_c {H : Imm} {F : List Frag} {w : World} {R : Ending → World → Prop} {kr : Unit → Prop} {kp : Value → Prop} (hG : Gl H) (K : Nat) (n_3368 : Int)
    (hS : St w H [] F) (hm : (slices_Grow___huff_packet_huff_packet__8ef0.m K n_3368).wp kr kp)
    (hret : ∀ (p3387 : Frag) (A3388 : Option Addr) (c3389 : Nat) (f3390 : Frag) (w : World), kr () → (Vec 112 (Row.v (sz := 2)) 2 A3388 ([] : List (Row 2)) c3389 f3390) → (RelL (R_huff_packet p3387) ([] : List T_huff_packet) ([] : List (Row 2))) → St w H [p3387, f3390] F → R (.returned (.slice A3388 ([] : List (Row 2)).length c3389)) w)
    (hpan : ∀ v w, kp v → St w H [] F → R (.panicked [⟨v, false, false⟩]) w) :
    Calls Tryd.prog 101 ⟨[.slice none 0 0, .int .i64 n_3368]⟩ w R := by
 refine enter Tryd.func101 rfl Tryd.ntmps101 rfl hS fun a w hS => ?_
 have hM := hm; clear hm
 rw [slices_Grow___huff_packet_huff_packet__8ef0.m] at hM
 refine wp_seq <| wp_region_list <| st1 hS (asg rfl) rfl fun a w hS => ?_
 obtain ⟨p3371, hS⟩ := hS.pool0
 obtain ⟨f3369, hV3370, hS⟩ := hS.nilV 112 (Row.v (sz := 2)) 2
 have hr3372 : RelL (R_huff_packet p3371) ([] : List T_huff_packet) ([] : List (Row 2)) := RelL.nil
 refine wpList_nil <| then_n <| wp_seq <| wp_seq <| wp_region_list <| st1 hS (mv rfl) rfl fun a w hS => st1 hS (bin rfl rfl rfl) rfl fun a w hS => wpList_nil <| then_n <| s_cond hS rfl hM (fun hb3373 hM => ?_) (fun hb3373 hM => ?_)
 ·refine wp_region_list ?_
  refine st1 hS (mkI rfl Tryd.runUnderlying9 rfl) rfl fun a w hS => s_panic hS rfl <| then_pan ?_
  exact ⟨hS.ev.defs, hpan _ _ (wp_pan hM) hS.st.frame⟩
 ·refine wp_skip ?_
  refine then_n <| wp_seq <| wp_seq <| wp_region_list <| st1 hS (mv rfl) rfl fun a w hS => st1 hS (mv rfl) rfl fun a w hS => st1 hS (capN rfl Tryd.runUnderlying110) rfl fun a w hS => st1 hS (mv rfl) rfl fun a w hS => st1 hS (lenV rfl Tryd.runUnderlying110) rfl fun a w hS => st1 hS (bin rfl rfl rfl) rfl fun a w hS => st1 hS (bin rfl rfl rfl) rfl fun a w hS => st1x (v := Value.int .i64) (x0 := (w64 (n_3368 - (w64 ((0 : Int) - (0 : Int)))))) hS (asg rfl) rfl fun n_3374 a w hz hS => ?_
  have hM := lt_to hz hM; clear hz
  refine wpList_nil <| then_n <| wp_seq <| wp_region_list <| st1 hS (mv rfl) rfl fun a w hS => st1 hS (bin rfl rfl rfl) rfl fun a w hS => wpList_nil <| then_n <| s_cond hS rfl hM (fun hb3375 hM => ?_) (fun hb3375 hM => ?_)
  ·refine wp_region_list ?_
   refine st1 hS (mv rfl) rfl fun a w hS => st1 hS (mv rfl) rfl fun a w hS => st1 hS (capN rfl Tryd.runUnderlying110) rfl fun a w hS => st1 hS (slN rfl Tryd.runUnderlying110 Tryd.sizeOf112 (hiS rfl)) rfl fun a w hS => st1 hS (mv rfl) rfl fun a w hS => ?_
   obtain ⟨hk3376, hM⟩ := wp_chk hM
   refine apG (g := (Row.v (sz := 2))) hS rfl rfl Tryd.runUnderlying110 Tryd.runUnderlying3 X.el112 rfl rfl hk3376 rfl fun w A3377 c3378 f3379 hV3380 hc3381 hA3382 hS => ?_
   have hr3383 : RelL (R_huff_packet p3371) ([] : List T_huff_packet) ([] : List (Row 2)) := RelL.nil
   refine st1 hS (mv rfl) rfl fun a w hS => st1 hS (lenV rfl Tryd.runUnderlying110) rfl fun a w hS => st1 hS (slG rfl Tryd.runUnderlying110 Tryd.sizeOf112 (fun _ => hiS rfl) hc3381 hA3382) rfl fun a w hS => st1 hS (asg rfl) rfl fun a w hS => wpList_nil <| then_n <| wp_seq <| wp_region_list <| st1 hS (mv rfl) rfl fun a w hS => st1 hS (asg rfl) rfl fun a w hS => wpList_nil <| then_n <| wp_ret ?_
   exact s_ret (rs := [4]) hS rfl rfl (hret p3371 A3377 c3378 f3379 w (wp_ok hM) hV3380 hr3383 (hS.st.pick [2, 0] (by kernel_rfl)))
  ·refine wp_skip ?_
   refine then_n <| wp_seq <| wp_region_list <| st1 hS (mv rfl) rfl fun a w hS => st1 hS (asg rfl) rfl fun a w hS => ?_
   obtain ⟨f3384, hV3385, hS⟩ := hS.nilV 112 (Row.v (sz := 2)) 2
   have hr3386 : RelL (R_huff_packet p3371) ([] : List T_huff_packet) ([] : List (Row 2)) := RelL.nil
   refine wpList_nil <| then_n <| wp_ret ?_
   exact s_ret (rs := [4]) hS rfl rfl (hret p3371 none (0) f3384 w (wp_ok hM) hV3385 hr3386 (hS.st.pick [2, 0] (by kernel_rfl)))

theorem slices_Concat___huff_packet_huff_packet__c {H : Imm} {F : List Frag} {w : World} {R : Ending → World → Prop} {kr : (List T_huff_packet) → Prop} {kp : Value → Prop} (hG : Gl H) (K : Nat) (slices3339 : List (List T_huff_packet)) (p3340 : Frag) (A3341 : Option Addr) (c3342 : Nat) (rw3343 : List (Row 1)) (hr3344 : RelL (R_s_huff_packet p3340) slices3339 rw3343) (hp3345 : Pl p3340 (Row.v (sz := 1)) A3341 rw3343) (hc3346 : rw3343.length ≤ c3342)
    (hS : St w H [p3340] F) (hm : (slices_Concat___huff_packet_huff_packet_.m K slices3339).wp kr kp)
    (hret : ∀ (p3456 : Frag) (A3458 : Option Addr) (c3459 : Nat) (rw3460 : List (Row 2)) (x3461 : (List T_huff_packet)) (f3462 : Frag) (w : World), kr x3461 → (∀ q ∈ p3340, q ∈ p3456) → (Vec 112 (Row.v (sz := 2)) 2 A3458 rw3460 c3459 f3462) → (RelL (R_huff_packet p3456) x3461 rw3460) → St w H [p3456, f3462] F → R (.returned (.slice A3458 rw3460.length c3459)) w)
    (hpan : ∀ v w, kp v → St w H [] F → R (.panicked [⟨v, false, false⟩]) w) :
    Calls Tryd.prog 83 ⟨[.slice A3341 rw3343.length c3342]⟩ w R := by
 refine enter Tryd.func83 rfl Tryd.ntmps83 rfl hS fun a w hS => ?_
 have hM := hm; clear hm
 rw [slices_Concat___huff_packet_huff_packet_.m] at hM
 have hs3347 : ∀ q ∈ p3340, q ∈ p3340 := fun _ h => h
 refine wp_seq <| wp_region_list <| st1 hS (asg rfl) rfl fun a w hS => ?_
 obtain ⟨f3348, hV3349, hS⟩ := hS.nilV 112 (Row.v (sz := 2)) 2
 have hr3350 : RelL (R_huff_packet p3340) ([] : List T_huff_packet) ([] : List (Row 2)) := RelL.nil
 refine wpList_nil <| then_n <| wp_seq <| wp_region_list <| st1 hS (asg rfl) rfl fun a w hS => wpList_nil <| then_n <| seq_joinJ (fun a w => ∃ (size3366 : Int), Ss 36 [] [(0, .slice A3341 rw3343.length c3342), (3, .int .i64 size3366)] H [p3340] F a w ∧ (slices_Concat___huff_packet_huff_packet_.j2 K slices3339 size3366).wp kr kp) (fun J3367 hJ3367 => ?_) ?_
 ·refine wp_seq ?_
  refine wp_region_list <| st1 hS (mv rfl) rfl fun a w hS => st1 hS (ovE (v' := .int .i64 (slices3339.length : Int)) (lenV rfl Tryd.runUnderlying165) (by rw [hr3344.len])) rfl fun a w hS => st1 hS (mv rfl) rfl fun a w hS => wpList_nil <| then_n <| wp_block <| s_loopJ (fun k3353 a w => ∃ (size3351 : Int) (v3352 : Int), Ss 36 [] [(0, .slice A3341 rw3343.length c3342), (3, .int .i64 size3351), (9, .slice A3341 rw3343.length c3342), (10, .int .i64 (slices3339.length : Int)), (11, .int .i64 v3352)] H [p3340] F a w ∧ (slices_Concat___huff_packet_huff_packet_.l1 K slices3339 k3353 size3351 v3352).wp kr kp) K ?_ ?_ ?_
  ·exact ⟨(0 : Int), (0 : Int), hS.to [1] (by kernel_rfl) ⟨rfl, rfl, rfl, rfl, rfl, trivial⟩, hM⟩
  ·intro a w hI; obtain ⟨_, _, _, hM⟩ := hI; exact wp_fail hM
  ·intro k3353 a w hI J3365 hJ3365
   obtain ⟨size3351, v3352, hS, hM⟩ := hI
   rw [slices_Concat___huff_packet_huff_packet_.l1] at hM
   refine wp_seq <| wp_region_list <| st1 hS (bin rfl rfl rfl) rfl fun a w hS => wpList_nil <| then_n <| wp_seq <| s_cond hS rfl hM (fun hb3354 hM => ?_) (fun hb3354 hM => ?_)
   ·refine wp_skip ?_
    refine then_n <| wp_seq <| wp_block <| wp_seq <| wp_region_list ?_
    obtain ⟨hk3355, hM⟩ := wp_chk hM
    refine st1 hS (ixV rfl rfl Tryd.runUnderlying165 Tryd.sizeOf110 (hp3345.rd (i := 0) rfl) Row.len rfl (hr3344.inb hk3355)) rfl fun a w hS => ?_
    obtain ⟨A3356, c3357, rw3360, hw3362, hr3361, hp3358, hc3359⟩ := hr3344.get hk3355
    refine st1 hS (ldV0 rfl (hp3345.rd (i := 0) rfl) Row.len (hr3344.inb hk3355) (by rw [show Row.v (rd rw3343 v3352) = _ from hw3362]; rfl) Tryd.isAgg110) rfl fun a w hS => st1 hS (asg rfl) rfl fun a w hS => wpList_nil <| then_n <| wp_seq <| wp_region_list <| st1 hS (mv rfl) rfl fun a w hS => st1 hS (mv rfl) rfl fun a w hS => st1 hS (ovE (v' := .int .i64 ((rd slices3339 v3352).length : Int)) (lenV rfl Tryd.runUnderlying110) (by rw [hr3361.len])) rfl fun a w hS => st1 hS (bin rfl rfl rfl) rfl fun a w hS => st1x (v := Value.int .i64) (x0 := (w64 (size3351 + ((rd slices3339 v3352).length : Int)))) hS (asg rfl) rfl fun size3363 a w hz hS => ?_
    have hM := lt_to hz hM; clear hz
    refine wpList_nil <| then_n <| wp_seq <| wp_region_list <| st1 hS (mv rfl) rfl fun a w hS => st1 hS (bin rfl rfl rfl) rfl fun a w hS => wpList_nil <| then_n <| s_cond hS rfl hM (fun hb3364 hM => ?_) (fun hb3364 hM => ?_)
    ·refine wp_region_list ?_
     refine st1 hS (mkI rfl Tryd.runUnderlying9 rfl) rfl fun a w hS => s_panic hS rfl <| blk_pan (then_pan (then_pan (blk_pan (then_pan ?_))))
     exact ⟨hS.ev.defs, hpan _ _ (wp_pan hM) hS.st.frame⟩
    ·refine wp_skip ?_
     refine blk_n (then_n ?_)
     refine wp_region_list <| st1 hS (bin rfl rfl rfl) rfl fun a w hS => st1 hS (mv rfl) rfl fun a w hS => wpList_nil <| then_n ?_
     exact hJ3365 _ _ ⟨size3363, (w64 (v3352 + (1 : Int))), hS.to [0] (by kernel_rfl) ⟨rfl, rfl, rfl, rfl, rfl, trivial⟩, hM⟩
   ·refine wp_exit ?_
    refine then_ex (then_ex (blk_same (then_n ?_)))
    exact hJ3367 _ _ ⟨size3351, hS.to [0] (by kernel_rfl) ⟨rfl, rfl, trivial⟩, hM⟩
 ·intro a w hI
  obtain ⟨size3366, hS, hM⟩ := hI
  rw [slices_Concat___huff_packet_huff_packet_.j2] at hM
  refine wp_seq <| wp_region_list <| st1 hS (mv rfl) rfl fun a w hS => s_call hS rfl Tryd.call101 (slices_Grow___huff_packet_huff_packet__8ef0_c hG K size3366 (hS.st.part 0 [0] (by kernel_rfl)) (wp_bind hM) (fun p3393 A3394 c3395 f3396 w hM h3397 h3398 hst => s_back hS.ev hst.appF rfl fun hS => ?_) (fun v w hk hst => s_pan (then_pan (⟨hS.ev.defs, hpan _ _ hk hst.appF.frame⟩))))
  replace hS : Ss _ _ _ H [p3393, f3396, p3340] F _ _ := hS
  replace hS := hS.front [0, 2, 1] (by kernel_rfl)
  obtain ⟨p3399, hs3400, hs3401, hS⟩ := hS.poolF
  replace h3398 := RelL.mono (fun _ _ h => R_huff_packet.mono hs3400 h) h3398
  replace hp3345 := hp3345.mono hs3401
  replace hr3344 := RelL.mono (fun _ _ h => R_s_huff_packet.mono hs3401 h) hr3344
  replace hs3347 := fun q h => hs3401 q (hs3347 q h)
  refine st1 hS (asg rfl) rfl fun a w hS => wpList_nil <| then_n <| wp_seq <| wp_seq <| wp_region_list <| st1 hS (mv rfl) rfl fun a w hS => st1 hS (ovE (v' := .int .i64 (slices3339.length : Int)) (lenV rfl Tryd.runUnderlying165) (by rw [hr3344.len])) rfl fun a w hS => st1 hS (mv rfl) rfl fun a w hS => wpList_nil <| then_n <| wp_block <| s_loopJ (fun k3437 a w => ∃ (A3429 : Option Addr) (c3430 : Nat) (rw3431 : List (Row 2)) (newslice3432 : (List T_huff_packet)) (f3433 : Frag) (v3436 : Int), Ss 36 [] [(6, .slice A3429 rw3431.length c3430), (25, .slice A3341 rw3343.length c3342), (26, .int .i64 (slices3339.length : Int)), (27, .int .i64 v3436)] H [p3399, f3433] F a w ∧ (Vec 112 (Row.v (sz := 2)) 2 A3429 rw3431 c3430 f3433) ∧ (RelL (R_huff_packet p3399) newslice3432 rw3431) ∧ (slices_Concat___huff_packet_huff_packet_.l3 K slices3339 k3437 newslice3432 v3436).wp kr kp) K ?_ ?_ ?_
  ·exact ⟨A3394, c3395, ([] : List (Row 2)), ([] : List T_huff_packet), f3396, (0 : Int), hS.to [0, 1] (by kernel_rfl) ⟨rfl, rfl, rfl, rfl, trivial⟩, h3397, h3398, hM⟩
  ·intro a w hI; obtain ⟨_, _, _, _, _, _, _, _, _, hM⟩ := hI; exact wp_fail hM
  ·intro k3437 a w hI J3455 hJ3455
   obtain ⟨A3429, c3430, rw3431, newslice3432, f3433, v3436, hS, hV3434, hr3435, hM⟩ := hI
   rw [slices_Concat___huff_packet_huff_packet_.l3] at hM
   refine wp_seq <| wp_region_list <| st1 hS (bin rfl rfl rfl) rfl fun a w hS => wpList_nil <| then_n <| wp_seq <| s_cond hS rfl hM (fun hb3438 hM => ?_) (fun hb3438 hM => ?_)
   ·refine wp_skip ?_
    refine then_n <| wp_seq <| wp_block <| wp_seq <| wp_region_list ?_
    obtain ⟨hk3439, hM⟩ := wp_chk hM
    refine st1 hS (ixV rfl rfl Tryd.runUnderlying165 Tryd.sizeOf110 (hp3345.rd (i := 0) rfl) Row.len rfl (hr3344.inb hk3439)) rfl fun a w hS => ?_
    obtain ⟨A3440, c3441, rw3444, hw3446, hr3445, hp3442, hc3443⟩ := hr3344.get hk3439
    refine st1 hS (ldV0 rfl (hp3345.rd (i := 0) rfl) Row.len (hr3344.inb hk3439) (by rw [show Row.v (rd rw3343 v3436) = _ from hw3446]; rfl) Tryd.isAgg110) rfl fun a w hS => st1 hS (asg rfl) rfl fun a w hS => wpList_nil <| then_n <| wp_region_list <| st1 hS (mv rfl) rfl fun a w hS => st1 hS (mv rfl) rfl fun a w hS => ?_
    obtain ⟨hk3447, hM⟩ := wp_chk hM
    refine apV (ys := rw3444) 1 hS rfl rfl hV3434 rfl (hp3442.rd (i := 0) rfl) Tryd.runUnderlying110 Tryd.runUnderlying110 X.el112 Row.len rfl one_row (hr3435.room hr3445 hk3447) rfl fun rw3452 w A3448 c3449 f3450 hz hV3451 hS => ?_
    obtain ⟨zs3453, hzm⟩ := nameE (newslice3432 ++ (rd slices3339 v3436))
    replace hM := lt_to hzm hM
    have hr3454 := RelL.append hr3435 hr3445
    rw [← hz, ← hzm] at hr3454; clear hz hzm
    refine st1 hS (asg rfl) rfl fun a w hS => wpList_nil <| blk_n (then_n ?_)
    refine wp_region_list <| st1 hS (bin rfl rfl rfl) rfl fun a w hS => st1 hS (mv rfl) rfl fun a w hS => wpList_nil <| then_n ?_
    exact hJ3455 _ _ ⟨A3448, c3449, rw3452, zs3453, f3450, (w64 (v3436 + (1 : Int))), hS.to [0, 1] (by kernel_rfl) ⟨rfl, rfl, rfl, rfl, trivial⟩, hV3451, hr3454, hM⟩
   ·refine wp_exit ?_
    refine then_ex (then_ex (blk_same (then_n ?_)))
    refine wp_seq <| wp_region_list <| st1 hS (mv rfl) rfl fun a w hS => st1 hS (asg rfl) rfl fun a w hS => wpList_nil <| then_n <| wp_ret ?_
    exact s_ret (rs := [2]) hS rfl rfl (hret p3399 A3429 c3430 rw3431 newslice3432 f3433 w (wp_ok hM) hs3347 hV3434 hr3435 (hS.st.pick [0, 1] (by kernel_rfl)))

theorem huff_merged_1_c {H : Imm} {F : List Frag} {w : World} {R : Ending → World → Prop} {kr : Int → Prop} {kp : Value → Prop} (hG : Gl H) (K : Nat) (x3532 : T_huff_packet) (y3537 : T_huff_packet) (A3533 : Option Addr) (c3534 : Nat) (A3538 : Option Addr) (c3539 : Nat) (hr3535 : Rdl H [] F (ci .i64) A3533 x3532.symbols_) (hc3536 : x3532.symbols_.length ≤ c3534) (hr3540 : Rdl H [] F (ci .i64) A3538 y3537.symbols_) (hc3541 : y3537.symbols_.length ≤ c3539)
    (hS : St w H [] F) (hm : (huff_merged_1.m K x3532 y3537).wp kr kp)
    (hret : ∀ (x3549 : Int) (w : World), kr x3549 → St w H [] F → R (.returned (.int .i64 x3549)) w) :
    Calls Tryd.prog 84 ⟨[.agg ⟨[.int .i64 x3532.often_, .slice A3533 x3532.symbols_.length c3534]⟩, .agg ⟨[.int .i64 y3537.often_, .slice A3538 y3537.symbols_.length c3539]⟩]⟩ w R := by
 refine enter Tryd.func84 rfl Tryd.ntmps84 rfl hS fun a w hS => ?_
 have hM := hm; clear hm
 rw [huff_merged_1.m] at hM
 refine wp_seq <| wp_region_list <| bx ([.int .i64 x3532.often_, .slice A3533 x3532.symbols_.length c3534]) hS rfl rfl rfl fun w b3542 f3543 hB3544 hS => bx ([.int .i64 y3537.often_, .slice A3538 y3537.symbols_.length c3539]) hS rfl rfl rfl fun w b3545 f3546 hB3547 hS => st1 hS (asg rfl) rfl fun a w hS => wpList_nil <| then_n <| wp_seq <| wp_region_list <| st1 hS (fad rfl Tryd.runUnderlying112 rfl Tryd.sizeOf3 rfl) rfl fun a w hS => st1 hS (ldb 1 rfl hB3544 rfl rfl Tryd.isAgg3) rfl fun a w hS => st1 hS (fad rfl Tryd.runUnderlying112 rfl Tryd.sizeOf3 rfl) rfl fun a w hS => st1 hS (ldb 0 rfl hB3547 rfl rfl Tryd.isAgg3) rfl fun a w hS => s_call hS rfl Tryd.call58 (cmp_Compare_int__c hG K x3532.often_ y3537.often_ (hS.st.part 0 [0, 1] (by kernel_rfl)) (wp_bind hM) (fun x3548 w hM  hst => s_back hS.ev hst.appF rfl fun hS => ?_))
 replace hS : Ss _ _ _ H [f3546, f3543] F _ _ := hS
 refine st1 hS (asg rfl) rfl fun a w hS => wpList_nil <| then_n <| wp_ret ?_
 exact s_ret (rs := [4]) hS rfl rfl (hret x3548 w (wp_ok hM) (hS.st.pick [] (by kernel_rfl)))

theorem slices_insertionSortCmpFunc_huff_packet__b6e1_dee5_c {H : Imm} {F : List Frag} {w : World} {R : Ending → World → Prop} {kr : (List T_huff_packet) → Prop} {kp : Value → Prop} (hG : Gl H) (K : Nat) (data3499 : List T_huff_packet) (a_3507 : Int) (b_3508 : Int) (p3500 : Frag) (A3501 : Option Addr) (c3502 : Nat) (rw3503 : List (Row 2)) (f3505 : Frag) (hr3504 : RelL (R_huff_packet p3500) data3499 rw3503) (hV3506 : Vec 112 (Row.v (sz := 2)) 2 A3501 rw3503 c3502 f3505)
    (hS : St w H [p3500, f3505] F) (hm : (slices_insertionSortCmpFunc_huff_packet__b6e1_dee5.m K data3499 a_3507 b_3508).wp kr kp)
    (hret : ∀ (rw3822 : List (Row 2)) (data3823 : (List T_huff_packet)) (f3824 : Frag) (w : World), kr data3823 → (Vec 112 (Row.v (sz := 2)) 2 A3501 rw3822 c3502 f3824) → (RelL (R_huff_packet p3500) data3823 rw3822) → (rw3822.length = rw3503.length) → St w H [p3500, f3824] F → R (.returned (.tuple ⟨[]⟩)) w) :
    Calls Tryd.prog 99 ⟨[.slice A3501 rw3503.length c3502, .int .i64 a_3507, .int .i64 b_3508, fnv 84 [] []]⟩ w R := by
 refine enter Tryd.func99 rfl Tryd.ntmps99 rfl hS fun a w hS => ?_
 have hM := hm; clear hm
 rw [slices_insertionSortCmpFunc_huff_packet__b6e1_dee5.m] at hM
 have hs3509 : ∀ q ∈ p3500, q ∈ p3500 := fun _ h => h
 have hz3510 : rw3503.length = rw3503.length := rfl
 refine wp_seq <| wp_region_list <| st1 hS (mv rfl) rfl fun a w hS => st1 hS (bin rfl rfl rfl) rfl fun a w hS => st1x (v := Value.int .i64) (x0 := (w64 (a_3507 + (1 : Int)))) hS (asg rfl) rfl fun i3511 a w hz hS => ?_
 have hM := lt_to hz hM; clear hz
 refine wpList_nil <| then_n <| wp_block <| s_loopJ (fun k3683 a w => ∃ (rw3676 : List (Row 2)) (data3677 : (List T_huff_packet)) (f3678 : Frag) (i3682 : Int), Ss 53 [] [(0, .slice A3501 rw3676.length c3502), (1, .int .i64 a_3507), (2, .int .i64 b_3508), (3, fnv 84 [] []), (8, .int .i64 i3682)] H [p3500, f3678] F a w ∧ (Vec 112 (Row.v (sz := 2)) 2 A3501 rw3676 c3502 f3678) ∧ (RelL (R_huff_packet p3500) data3677 rw3676) ∧ (rw3676.length = rw3503.length) ∧ (slices_insertionSortCmpFunc_huff_packet__b6e1_dee5.l1 K a_3507 b_3508 k3683 data3677 i3682).wp kr kp) K ?_ ?_ ?_
 ·exact ⟨rw3503, data3499, f3505, i3511, hS.to [0, 1] (by kernel_rfl) ⟨rfl, rfl, rfl, rfl, rfl, trivial⟩, hV3506, hr3504, hz3510, hM⟩
 ·intro a w hI; obtain ⟨_, _, _, _, _, _, _, _, hM⟩ := hI; exact wp_fail hM
 ·intro k3683 a w hI J3821 hJ3821
  obtain ⟨rw3676, data3677, f3678, i3682, hS, hV3679, hr3680, hz3681, hM⟩ := hI
  rw [slices_insertionSortCmpFunc_huff_packet__b6e1_dee5.l1] at hM
  refine wp_seq <| wp_seq <| wp_region_list <| st1 hS (mv rfl) rfl fun a w hS => st1 hS (mv rfl) rfl fun a w hS => st1 hS (bin rfl rfl rfl) rfl fun a w hS => wpList_nil <| then_n <| s_cond hS rfl hM (fun hb3684 hM => ?_) (fun hb3684 hM => ?_)
  ·refine wp_skip ?_
   refine then_n <| wp_seq <| wp_block <| wp_seq <| wp_region_list <| st1 hS (mv rfl) rfl fun a w hS => st1 hS (asg rfl) rfl fun a w hS => wpList_nil <| then_n <| wp_block <| s_loopJ (fun k3760 a w => ∃ (rw3753 : List (Row 2)) (data3754 : (List T_huff_packet)) (f3755 : Frag) (j3759 : Int), Ss 53 [] [(0, .slice A3501 rw3753.length c3502), (1, .int .i64 a_3507), (2, .int .i64 b_3508), (3, fnv 84 [] []), (8, .int .i64 i3682), (9, .int .i64 j3759)] H [p3500, f3755] F a w ∧ (Vec 112 (Row.v (sz := 2)) 2 A3501 rw3753 c3502 f3755) ∧ (RelL (R_huff_packet p3500) data3754 rw3753) ∧ (rw3753.length = rw3503.length) ∧ (slices_insertionSortCmpFunc_huff_packet__b6e1_dee5.l2 K (slices_insertionSortCmpFunc_huff_packet__b6e1_dee5.l1 K a_3507 b_3508 k3683) a_3507 i3682 k3760 data3754 j3759).wp kr kp) K ?_ ?_ ?_
   ·exact ⟨rw3676, data3677, f3678, i3682, hS.to [0, 1] (by kernel_rfl) ⟨rfl, rfl, rfl, rfl, rfl, rfl, trivial⟩, hV3679, hr3680, hz3681, hM⟩
   ·intro a w hI; obtain ⟨_, _, _, _, _, _, _, _, hM⟩ := hI; exact wp_fail hM
   ·intro k3760 a w hI J3820 hJ3820
    obtain ⟨rw3753, data3754, f3755, j3759, hS, hV3756, hr3757, hz3758, hM⟩ := hI
    rw [slices_insertionSortCmpFunc_huff_packet__b6e1_dee5.l2] at hM
    refine wp_seq <| seq_joinJ (fun a w => ∃ (v3777 : Bool), Ss 53 [] [(0, .slice A3501 rw3753.length c3502), (1, .int .i64 a_3507), (2, .int .i64 b_3508), (3, fnv 84 [] []), (8, .int .i64 i3682), (9, .int .i64 j3759), (34, .bool v3777)] H [p3500, f3755] F a w ∧ (slices_insertionSortCmpFunc_huff_packet__b6e1_dee5.j3 K (slices_insertionSortCmpFunc_huff_packet__b6e1_dee5.l1 K a_3507 b_3508 k3683) (slices_insertionSortCmpFunc_huff_packet__b6e1_dee5.l2 K (slices_insertionSortCmpFunc_huff_packet__b6e1_dee5.l1 K a_3507 b_3508 k3683) a_3507 i3682 k3760) i3682 data3754 j3759 v3777).wp kr kp) (fun J3778 hJ3778 => ?_) ?_
    ·refine ifB (b := (decide (j3759 > a_3507))) hM (fun hb3761 hM => ?_) (fun hb3761 hM => ?_)
     ·obtain ⟨hk3763, hM⟩ := wp_chk hM
      obtain ⟨A3764, c3765, hw3768, hp3766, hc3767⟩ := hr3757.get hk3763
      obtain ⟨hk3770, hM⟩ := wp_chk hM
      obtain ⟨A3771, c3772, hw3775, hp3773, hc3774⟩ := hr3757.get hk3770
      refine draw_begin (vals := [some (.int .i64 j3759), some (.int .i64 a_3507), some (.bool true), some (.bool true), some (fnv 84 [] []), some (.slice A3501 rw3753.length c3502), some (.int .i64 j3759), some (slp A3501 (Int.toNat j3759 * 2)), some (.agg ⟨[.int .i64 ((rd data3754 j3759).often_), .slice A3764 ((rd data3754 j3759).symbols_).length c3765]⟩), some (.slice A3501 rw3753.length c3502), some (.int .i64 j3759), some (.int .i64 (w64 (j3759 - (1 : Int)))), some (slp A3501 (Int.toNat (w64 (j3759 - (1 : Int))) * 2)), some (.agg ⟨[.int .i64 ((rd data3754 (w64 (j3759 - (1 : Int)))).often_), .slice A3771 ((rd data3754 (w64 (j3759 - (1 : Int)))).symbols_).length c3772]⟩), none, none, none]) hS mixed rfl ?_
      intro l w ho hcl hA hst
      refine phq hA hst ho hcl navail nmust 14 [0, 1, 2, 3, 4, 5, 6, 7, 8, 9, 10, 11, 12, 13] rfl rfl rfl rfl rfl (by exact ⟨nR rfl rfl rfl rfl rfl (by exact ovE (mv rfl) rfl), nR rfl rfl rfl rfl rfl (by exact ovE (mv rfl) rfl), nR rfl rfl rfl rfl rfl (by exact ovE (bin rfl rfl rfl) (congrArg Value.bool hb3761)), nR rfl rfl rfl rfl rfl (by exact ovE (mv rfl) rfl), nW rfl rfl rfl rfl rfl rfl rfl rfl (by exact ovE (mv rfl) rfl), nW rfl rfl rfl rfl rfl rfl rfl rfl (by exact ovE (mv rfl) rfl), nW rfl rfl rfl rfl rfl rfl rfl rfl (by exact ovE (mv rfl) rfl), nW rfl rfl rfl rfl rfl rfl rfl rfl (by exact ovE (ixV rfl rfl Tryd.runUnderlying110 Tryd.sizeOf112 (hV3756.rd (i := 1) rfl) Row.len rfl (hr3757.inb hk3763)) rfl), nW rfl rfl rfl rfl rfl rfl rfl rfl (by exact ovE (ovE (ldVA rfl (hV3756.rd (i := 1) rfl) Row.len (hr3757.inb hk3763) Tryd.isAgg112 Tryd.sizeOf112 rfl) (congrArg (fun l => Value.agg ⟨l⟩) hw3768)) rfl), nW rfl rfl rfl rfl rfl rfl rfl rfl (by exact ovE (mv rfl) rfl), nW rfl rfl rfl rfl rfl rfl rfl rfl (by exact ovE (mv rfl) rfl), nW rfl rfl rfl rfl rfl rfl rfl rfl (by exact ovE (bin rfl rfl rfl) rfl), nW rfl rfl rfl rfl rfl rfl rfl rfl (by exact ovE (ixV rfl rfl Tryd.runUnderlying110 Tryd.sizeOf112 (hV3756.rd (i := 1) rfl) Row.len rfl (hr3757.inb hk3770)) rfl), nW rfl rfl rfl rfl rfl rfl rfl rfl (by exact ovE (ovE (ldVA rfl (hV3756.rd (i := 1) rfl) Row.len (hr3757.inb hk3770) Tryd.isAgg112 Tryd.sizeOf112 rfl) (congrArg (fun l => Value.agg ⟨l⟩) hw3775)) rfl), trivial⟩) fun D l a w ho hcl hav hpre hm hE hk hA hst => ?_
      have hS := (Ss.mk hE hst).env2 (e' := [(21, .bool true), (22, fnv 84 [] []), (26, .agg ⟨[.int .i64 ((rd data3754 j3759).often_), .slice A3764 ((rd data3754 j3759).symbols_).length c3765]⟩), (31, .agg ⟨[.int .i64 ((rd data3754 (w64 (j3759 - (1 : Int)))).often_), .slice A3771 ((rd data3754 (w64 (j3759 - (1 : Int)))).symbols_).length c3772]⟩)]) ⟨rfl, rfl, rfl, rfl, trivial⟩
      refine op_of_nth rfl <| unguard hS rfl rfl rfl rfl <| s_callV hS rfl rfl Tryd.call84 (huff_merged_1_c hG K (T_huff_packet.mk ((rd data3754 j3759).often_) ((rd data3754 j3759).symbols_)) (T_huff_packet.mk ((rd data3754 (w64 (j3759 - (1 : Int)))).often_) ((rd data3754 (w64 (j3759 - (1 : Int)))).symbols_)) A3764 c3765 A3771 c3772 (hp3766.rdF (i := 0) rfl) hc3767 (hp3773.rdF (i := 0) rfl) hc3774 (hS.st.part 0 [0, 1] (by kernel_rfl)) (wp_bind hM) (fun x3776 w hM  hst => s_back hS.ev hst.appF rfl fun hS => ?_))
      replace hS : Ss _ _ _ H [p3500, f3755] F _ _ := hS
      refine wpList_nil (then_n ?_)
      replace hst := hS.st
      obtain ⟨hcl, hmust, hav2, hA⟩ := dn (vals' := [some (.int .i64 j3759), some (.int .i64 a_3507), some (.bool true), some (.bool true), some (fnv 84 [] []), some (.slice A3501 rw3753.length c3502), some (.int .i64 j3759), some (slp A3501 (Int.toNat j3759 * 2)), some (.agg ⟨[.int .i64 ((rd data3754 j3759).often_), .slice A3764 ((rd data3754 j3759).symbols_).length c3765]⟩), some (.slice A3501 rw3753.length c3502), some (.int .i64 j3759), some (.int .i64 (w64 (j3759 - (1 : Int)))), some (slp A3501 (Int.toNat (w64 (j3759 - (1 : Int))) * 2)), some (.agg ⟨[.int .i64 ((rd data3754 (w64 (j3759 - (1 : Int)))).often_), .slice A3771 ((rd data3754 (w64 (j3759 - (1 : Int)))).symbols_).length c3772]⟩), some (.int .i64 x3776), some (.bool (decide (x3776 < (0 : Int)))), some (.bool (decide (x3776 < (0 : Int))))]) 14 [(3, 14), (4, 14), (8, 14), (13, 14), (2, 3), (7, 8), (12, 13), (0, 2), (1, 2), (5, 7), (6, 7), (9, 12), (11, 12), (10, 11)] hA hcl hav hm hpre hk rfl rfl rfl rfl rfl rfl rfl
      clear hm hav
      refine phqE hA hst ho hcl hmust [15, 16] rfl rfl rfl (by exact ⟨nW rfl rfl rfl rfl rfl rfl rfl rfl (by exact ovE (bin rfl rfl rfl) rfl), nR rfl rfl rfl rfl rfl (by exact ovE (pk rfl rfl rfl) rfl), trivial⟩) fun a w hS => ?_
      replace hS := hS.env2 (e' := [(0, .slice A3501 rw3753.length c3502), (1, .int .i64 a_3507), (2, .int .i64 b_3508), (3, fnv 84 [] []), (8, .int .i64 i3682), (9, .int .i64 j3759), (34, .bool (decide (x3776 < (0 : Int))))]) ⟨rfl, rfl, rfl, rfl, rfl, rfl, rfl, trivial⟩
      refine then_n ?_
      exact hJ3778 _ _ ⟨(decide (x3776 < (0 : Int))), hS.to [0, 1] (by kernel_rfl) ⟨rfl, rfl, rfl, rfl, rfl, rfl, rfl, trivial⟩, hM⟩
     ·refine draw_begin (vals := [some (.int .i64 j3759), some (.int .i64 a_3507), some (.bool false), some (.bool false), some (undef), some (undef), some (undef), some (undef), some (undef), some (undef), some (undef), some (undef), some (undef), some (undef), some (undef), some (undef), some (.bool false)]) hS mixed rfl ?_
      intro l w ho hcl hA hst
      refine phqE hA hst ho hcl nmust [0, 1, 2, 3, 4, 5, 6, 7, 8, 9, 10, 11, 12, 13, 14, 15, 16] rfl rfl rfl (by exact ⟨nR rfl rfl rfl rfl rfl (by exact ovE (mv rfl) rfl), nR rfl rfl rfl rfl rfl (by exact ovE (mv rfl) rfl), nR rfl rfl rfl rfl rfl (by exact ovE (bin rfl rfl rfl) (congrArg Value.bool hb3761)), nR rfl rfl rfl rfl rfl (by exact ovE (mv rfl) rfl), nS rfl rfl rfl rfl rfl rfl rfl rfl rfl, nS rfl rfl rfl rfl rfl rfl rfl rfl rfl, nS rfl rfl rfl rfl rfl rfl rfl rfl rfl, nS rfl rfl rfl rfl rfl rfl rfl rfl rfl, nS rfl rfl rfl rfl rfl rfl rfl rfl rfl, nS rfl rfl rfl rfl rfl rfl rfl rfl rfl, nS rfl rfl rfl rfl rfl rfl rfl rfl rfl, nS rfl rfl rfl rfl rfl rfl rfl rfl rfl, nS rfl rfl rfl rfl rfl rfl rfl rfl rfl, nS rfl rfl rfl rfl rfl rfl rfl rfl rfl, nS rfl rfl rfl rfl rfl rfl rfl rfl rfl, nS rfl rfl rfl rfl rfl rfl rfl rfl rfl, nR rfl rfl rfl rfl rfl (by exact ovE (pk rfl rfl rfl) rfl), trivial⟩) fun a w hS => ?_
      replace hS := hS.env2 (e' := [(0, .slice A3501 rw3753.length c3502), (1, .int .i64 a_3507), (2, .int .i64 b_3508), (3, fnv 84 [] []), (8, .int .i64 i3682), (9, .int .i64 j3759), (34, .bool false)]) ⟨rfl, rfl, rfl, rfl, rfl, rfl, rfl, trivial⟩
      refine then_n ?_
      exact hJ3778 _ _ ⟨false, hS.to [0, 1] (by kernel_rfl) ⟨rfl, rfl, rfl, rfl, rfl, rfl, rfl, trivial⟩, hM⟩
    ·intro a w hI
     obtain ⟨v3777, hS, hM⟩ := hI
     rw [slices_insertionSortCmpFunc_huff_packet__b6e1_dee5.j3] at hM
     refine s_cond hS rfl hM (fun hb3779 hM => ?_) (fun hb3779 hM => ?_)
     ·refine wp_skip ?_
      refine then_n <| wp_seq <| wp_block ?_
      obtain ⟨hk3782, hM⟩ := wp_chk hM
      obtain ⟨A3783, c3784, hw3787, hp3785, hc3786⟩ := hr3757.get hk3782
      obtain ⟨hk3789, hM⟩ := wp_chk hM
      obtain ⟨A3790, c3791, hw3794, hp3792, hc3793⟩ := hr3757.get hk3789
      refine draw_begin (vals := [some (.slice A3501 rw3753.length c3502), some (.int .i64 j3759), some (.slice A3501 rw3753.length c3502), some (.int .i64 j3759), some (.int .i64 (w64 (j3759 - (1 : Int)))), some (.slice A3501 rw3753.length c3502), some (.int .i64 j3759), some (.int .i64 (w64 (j3759 - (1 : Int)))), some (slp A3501 (Int.toNat (w64 (j3759 - (1 : Int))) * 2)), some (.agg ⟨[.int .i64 ((rd data3754 (w64 (j3759 - (1 : Int)))).often_), .slice A3783 ((rd data3754 (w64 (j3759 - (1 : Int)))).symbols_).length c3784]⟩), some (.slice A3501 rw3753.length c3502), some (.int .i64 j3759), some (slp A3501 (Int.toNat j3759 * 2)), some (.agg ⟨[.int .i64 ((rd data3754 j3759).often_), .slice A3790 ((rd data3754 j3759).symbols_).length c3791]⟩), some (slp A3501 (Int.toNat j3759 * 2)), none, none, none]) hS mixed rfl ?_
      intro l w ho hcl hA hst
      refine phq hA hst ho hcl navail nmust 15 [0, 1, 2, 3, 4, 5, 6, 7, 8, 9, 10, 11, 12, 13, 14] rfl rfl rfl rfl rfl (by exact ⟨nR rfl rfl rfl rfl rfl (by exact ovE (mv rfl) rfl), nR rfl rfl rfl rfl rfl (by exact ovE (mv rfl) rfl), nR rfl rfl rfl rfl rfl (by exact ovE (mv rfl) rfl), nR rfl rfl rfl rfl rfl (by exact ovE (mv rfl) rfl), nR rfl rfl rfl rfl rfl (by exact ovE (bin rfl rfl rfl) rfl), nR rfl rfl rfl rfl rfl (by exact ovE (mv rfl) rfl), nR rfl rfl rfl rfl rfl (by exact ovE (mv rfl) rfl), nR rfl rfl rfl rfl rfl (by exact ovE (bin rfl rfl rfl) rfl), nR rfl rfl rfl rfl rfl (by exact ovE (ixV rfl rfl Tryd.runUnderlying110 Tryd.sizeOf112 (hV3756.rd (i := 1) rfl) Row.len rfl (hr3757.inb hk3782)) rfl), nR rfl rfl rfl rfl rfl (by exact ovE (ovE (ldVA rfl (hV3756.rd (i := 1) rfl) Row.len (hr3757.inb hk3782) Tryd.isAgg112 Tryd.sizeOf112 rfl) (congrArg (fun l => Value.agg ⟨l⟩) hw3787)) rfl), nR rfl rfl rfl rfl rfl (by exact ovE (mv rfl) rfl), nR rfl rfl rfl rfl rfl (by exact ovE (mv rfl) rfl), nR rfl rfl rfl rfl rfl (by exact ovE (ixV rfl rfl Tryd.runUnderlying110 Tryd.sizeOf112 (hV3756.rd (i := 1) rfl) Row.len rfl (hr3757.inb hk3789)) rfl), nR rfl rfl rfl rfl rfl (by exact ovE (ovE (ldVA rfl (hV3756.rd (i := 1) rfl) Row.len (hr3757.inb hk3789) Tryd.isAgg112 Tryd.sizeOf112 rfl) (congrArg (fun l => Value.agg ⟨l⟩) hw3794)) rfl), nR rfl rfl rfl rfl rfl (by exact ovE (ixV rfl rfl Tryd.runUnderlying110 Tryd.sizeOf112 (hV3756.rd (i := 1) rfl) Row.len rfl (hr3757.inb hk3789)) rfl), trivial⟩) fun D l a w ho hcl hav hpre hm hE hk hA hst => ?_
      have hS := (Ss.mk hE hst).env2 (e' := [(46, .agg ⟨[.int .i64 ((rd data3754 (w64 (j3759 - (1 : Int)))).often_), .slice A3783 ((rd data3754 (w64 (j3759 - (1 : Int)))).symbols_).length c3784]⟩), (51, slp A3501 (Int.toNat j3759 * 2))]) ⟨rfl, rfl, trivial⟩
      refine op_of_nth rfl <| stVR (i := j3759) (sz := 2) 1 (⟨[.int .i64 ((rd data3754 (w64 (j3759 - (1 : Int)))).often_), .slice A3783 ((rd data3754 (w64 (j3759 - (1 : Int)))).symbols_).length c3784], by simp, by simp [Value.oneCell']⟩ : Row 2) hS rfl rfl hV3756 rfl Tryd.sizeOf112 rfl (hr3757.inb hk3789) fun rw3801 w f3799 hz hV3800 hS => ?_
      obtain ⟨zs3802, hzm⟩ := nameE (data3754.set (Int.toNat j3759) (T_huff_packet.mk ((rd data3754 (w64 (j3759 - (1 : Int)))).often_) ((rd data3754 (w64 (j3759 - (1 : Int)))).symbols_)))
      replace hM := lt_to hzm hM
      have hr3803 := RelL.set (x := (T_huff_packet.mk ((rd data3754 (w64 (j3759 - (1 : Int)))).often_) ((rd data3754 (w64 (j3759 - (1 : Int)))).symbols_))) (r := (⟨[.int .i64 ((rd data3754 (w64 (j3759 - (1 : Int)))).often_), .slice A3783 ((rd data3754 (w64 (j3759 - (1 : Int)))).symbols_).length c3784], by simp, by simp [Value.oneCell']⟩ : Row 2)) (Int.toNat j3759) hr3757 (show R_huff_packet p3500 _ _ from ⟨A3783, c3784, rfl, hp3785, hc3786⟩)
      have hz3804 : rw3801.length = rw3753.length := by rw [hz]; exact List.length_set ..
      rw [← hz, ← hzm] at hr3803; clear hz hzm
      have hz3805 := Eq.trans hz3804 hz3758
      refine wpList_nil (then_n ?_)
      replace hst := hS.st
      obtain ⟨hk3807, hM⟩ := wp_chk hM
      obtain ⟨hcl, hmust, hav2, hA⟩ := dnN (vals' := [some (.slice A3501 rw3753.length c3502), some (.int .i64 j3759), some (.slice A3501 rw3753.length c3502), some (.int .i64 j3759), some (.int .i64 (w64 (j3759 - (1 : Int)))), some (.slice A3501 rw3753.length c3502), some (.int .i64 j3759), some (.int .i64 (w64 (j3759 - (1 : Int)))), some (slp A3501 (Int.toNat (w64 (j3759 - (1 : Int))) * 2)), some (.agg ⟨[.int .i64 ((rd data3754 (w64 (j3759 - (1 : Int)))).often_), .slice A3783 ((rd data3754 (w64 (j3759 - (1 : Int)))).symbols_).length c3784]⟩), some (.slice A3501 rw3753.length c3502), some (.int .i64 j3759), some (slp A3501 (Int.toNat j3759 * 2)), some (.agg ⟨[.int .i64 ((rd data3754 j3759).often_), .slice A3790 ((rd data3754 j3759).symbols_).length c3791]⟩), some (slp A3501 (Int.toNat j3759 * 2)), some undef, some (slp A3501 (Int.toNat (w64 (j3759 - (1 : Int))) * 2)), none]) 15 [(0, 15), (1, 15), (5, 15), (6, 15), (7, 15), (8, 15), (9, 15), (13, 15), (14, 15), (12, 13), (10, 12), (11, 12)] hA hcl hav hm hpre rfl rfl rfl rfl rfl
      clear hm hav
      refine phq hA hst ho hcl hav2 hmust 17 [2, 3, 4, 16] rfl rfl rfl rfl rfl (by exact ⟨nR rfl rfl rfl rfl rfl (by exact ovE (mv rfl) rfl), nR rfl rfl rfl rfl rfl (by exact ovE (mv rfl) rfl), nR rfl rfl rfl rfl rfl (by exact ovE (bin rfl rfl rfl) rfl), nR rfl rfl rfl rfl rfl (by exact ovE (ixV (lenx hz3804 rfl) rfl Tryd.runUnderlying110 Tryd.sizeOf112 (hV3800.rd (i := 1) rfl) Row.len rfl (hr3803.inb hk3807)) rfl), trivial⟩) fun D l a w ho hcl hav hpre hm hE hk hA hst => ?_
      have hS := (Ss.mk hE hst).env2 (e' := [(50, .agg ⟨[.int .i64 ((rd data3754 j3759).often_), .slice A3790 ((rd data3754 j3759).symbols_).length c3791]⟩), (52, slp A3501 (Int.toNat (w64 (j3759 - (1 : Int))) * 2))]) ⟨rfl, rfl, trivial⟩
      refine op_of_nth rfl <| stVR (i := (w64 (j3759 - (1 : Int)))) (sz := 2) 1 (⟨[.int .i64 ((rd data3754 j3759).often_), .slice A3790 ((rd data3754 j3759).symbols_).length c3791], by simp, by simp [Value.oneCell']⟩ : Row 2) hS rfl rfl hV3800 rfl Tryd.sizeOf112 rfl (hr3803.inb hk3807) fun rw3814 w f3812 hz hV3813 hS => ?_
      obtain ⟨zs3815, hzm⟩ := nameE (zs3802.set (Int.toNat (w64 (j3759 - (1 : Int)))) (T_huff_packet.mk ((rd data3754 j3759).often_) ((rd data3754 j3759).symbols_)))
      replace hM := lt_to hzm hM
      have hr3816 := RelL.set (x := (T_huff_packet.mk ((rd data3754 j3759).often_) ((rd data3754 j3759).symbols_))) (r := (⟨[.int .i64 ((rd data3754 j3759).often_), .slice A3790 ((rd data3754 j3759).symbols_).length c3791], by simp, by simp [Value.oneCell']⟩ : Row 2)) (Int.toNat (w64 (j3759 - (1 : Int)))) hr3803 (show R_huff_packet p3500 _ _ from ⟨A3790, c3791, rfl, hp3792, hc3793⟩)
      have hz3817 : rw3814.length = rw3801.length := by rw [hz]; exact List.length_set ..
      rw [← hz, ← hzm] at hr3816; clear hz hzm
      have hz3818 := Eq.trans hz3817 hz3805
      refine wpList_nil (then_n ?_)
      replace hst := hS.st
      obtain ⟨hcl, hmust, hav2, hA⟩ := dnN (vals' := [some (.slice A3501 rw3753.length c3502), some (.int .i64 j3759), some (.slice A3501 rw3753.length c3502), some (.int .i64 j3759), some (.int .i64 (w64 (j3759 - (1 : Int)))), some (.slice A3501 rw3753.length c3502), some (.int .i64 j3759), some (.int .i64 (w64 (j3759 - (1 : Int)))), some (slp A3501 (Int.toNat (w64 (j3759 - (1 : Int))) * 2)), some (.agg ⟨[.int .i64 ((rd data3754 (w64 (j3759 - (1 : Int)))).often_), .slice A3783 ((rd data3754 (w64 (j3759 - (1 : Int)))).symbols_).length c3784]⟩), some (.slice A3501 rw3753.length c3502), some (.int .i64 j3759), some (slp A3501 (Int.toNat j3759 * 2)), some (.agg ⟨[.int .i64 ((rd data3754 j3759).often_), .slice A3790 ((rd data3754 j3759).symbols_).length c3791]⟩), some (slp A3501 (Int.toNat j3759 * 2)), some undef, some (slp A3501 (Int.toNat (w64 (j3759 - (1 : Int))) * 2)), some undef]) 17 [(0, 17), (1, 17), (2, 17), (3, 17), (4, 17), (5, 17), (6, 17), (7, 17), (8, 17), (9, 17), (10, 17), (11, 17), (12, 17), (13, 17), (14, 17), (15, 17), (16, 17)] hA hcl hav hm hpre rfl rfl rfl rfl rfl
      clear hm hav
      refine phqE hA hst ho hcl hmust [] rfl rfl rfl trivial fun a w hS => ?_
      replace hS := hS.env2 (e' := [(0, .slice A3501 rw3814.length c3502), (1, .int .i64 a_3507), (2, .int .i64 b_3508), (3, fnv 84 [] []), (8, .int .i64 i3682), (9, .int .i64 j3759)]) ⟨(relk (u := .slice A3501 rw3753.length c3502) rfl (by rw [hz3817, hz3804])), rfl, rfl, rfl, rfl, rfl, trivial⟩
      refine blk_n (then_n ?_)
      refine wp_region_list <| st1 hS (mv rfl) rfl fun a w hS => st1 hS (bin rfl rfl rfl) rfl fun a w hS => st1x (v := Value.int .i64) (x0 := (w64 (j3759 - (1 : Int)))) hS (asg rfl) rfl fun j3819 a w hz hS => ?_
      have hM := lt_to hz hM; clear hz
      refine wpList_nil <| then_n ?_
      exact hJ3820 _ _ ⟨rw3814, zs3815, f3812, j3819, hS.to [0, 1] (by kernel_rfl) ⟨rfl, rfl, rfl, rfl, rfl, rfl, trivial⟩, hV3813, hr3816, hz3818, hM⟩
     ·refine wp_exit ?_
      refine then_ex (then_ex (blk_same (blk_n (then_n ?_))))
      refine wp_region_list <| st1 hS (mv rfl) rfl fun a w hS => st1 hS (bin rfl rfl rfl) rfl fun a w hS => st1x (v := Value.int .i64) (x0 := (w64 (i3682 + (1 : Int)))) hS (asg rfl) rfl fun i3780 a w hz hS => ?_
      have hM := lt_to hz hM; clear hz
      refine wpList_nil <| then_n ?_
      exact hJ3821 _ _ ⟨rw3753, data3754, f3755, i3780, hS.to [0, 1] (by kernel_rfl) ⟨rfl, rfl, rfl, rfl, rfl, trivial⟩, hV3756, hr3757, hz3758, hM⟩
  ·refine wp_exit ?_
   refine then_ex (then_ex (blk_same ?_))
   exact s_end (rs := []) hS rfl rfl (hret rw3676 data3677 f3678 w (wp_ok hM) hV3679 hr3680 hz3681 (hS.st.pick [0, 1] (by kernel_rfl)))

theorem slices_swapRangeCmpFunc_huff_packet__b6e1_b35e_c {H : Imm} {F : List Frag} {w : World} {R : Ending → World → Prop} {kr : (List T_huff_packet) → Prop} {kp : Value → Prop} (hG : Gl H) (K : Nat) (data4204 : List T_huff_packet) (a_4212 : Int) (b_4213 : Int) (n_4214 : Int) (p4205 : Frag) (A4206 : Option Addr) (c4207 : Nat) (rw4208 : List (Row 2)) (f4210 : Frag) (hr4209 : RelL (R_huff_packet p4205) data4204 rw4208) (hV4211 : Vec 112 (Row.v (sz := 2)) 2 A4206 rw4208 c4207 f4210)
    (hS : St w H [p4205, f4210] F) (hm : (slices_swapRangeCmpFunc_huff_packet__b6e1_b35e.m K data4204 a_4212 b_4213 n_4214).wp kr kp)
    (hret : ∀ (rw4315 : List (Row 2)) (data4316 : (List T_huff_packet)) (f4317 : Frag) (w : World), kr data4316 → (Vec 112 (Row.v (sz := 2)) 2 A4206 rw4315 c4207 f4317) → (RelL (R_huff_packet p4205) data4316 rw4315) → (rw4315.length = rw4208.length) → St w H [p4205, f4317] F → R (.returned (.tuple ⟨[]⟩)) w) :
    Calls Tryd.prog 109 ⟨[.slice A4206 rw4208.length c4207, .int .i64 a_4212, .int .i64 b_4213, .int .i64 n_4214, fnv 84 [] []]⟩ w R := by
 refine enter Tryd.func109 rfl Tryd.ntmps109 rfl hS fun a w hS => ?_
 have hM := hm; clear hm
 rw [slices_swapRangeCmpFunc_huff_packet__b6e1_b35e.m] at hM
 have hs4215 : ∀ q ∈ p4205, q ∈ p4205 := fun _ h => h
 have hz4216 : rw4208.length = rw4208.length := rfl
 refine wp_seq <| wp_region_list <| st1 hS (asg rfl) rfl fun a w hS => wpList_nil <| then_n <| wp_block <| s_loopJ (fun k4273 a w => ∃ (rw4266 : List (Row 2)) (data4267 : (List T_huff_packet)) (f4268 : Frag) (i4272 : Int), Ss 38 [] [(0, .slice A4206 rw4266.length c4207), (1, .int .i64 a_4212), (2, .int .i64 b_4213), (3, .int .i64 n_4214), (10, .int .i64 i4272)] H [p4205, f4268] F a w ∧ (Vec 112 (Row.v (sz := 2)) 2 A4206 rw4266 c4207 f4268) ∧ (RelL (R_huff_packet p4205) data4267 rw4266) ∧ (rw4266.length = rw4208.length) ∧ (slices_swapRangeCmpFunc_huff_packet__b6e1_b35e.l1 K a_4212 b_4213 n_4214 k4273 data4267 i4272).wp kr kp) K ?_ ?_ ?_
 ·exact ⟨rw4208, data4204, f4210, (0 : Int), hS.to [0, 1] (by kernel_rfl) ⟨rfl, rfl, rfl, rfl, rfl, trivial⟩, hV4211, hr4209, hz4216, hM⟩
 ·intro a w hI; obtain ⟨_, _, _, _, _, _, _, _, hM⟩ := hI; exact wp_fail hM
 ·intro k4273 a w hI J4314 hJ4314
  obtain ⟨rw4266, data4267, f4268, i4272, hS, hV4269, hr4270, hz4271, hM⟩ := hI
  rw [slices_swapRangeCmpFunc_huff_packet__b6e1_b35e.l1] at hM
  refine wp_seq <| wp_seq <| wp_region_list <| st1 hS (mv rfl) rfl fun a w hS => st1 hS (mv rfl) rfl fun a w hS => st1 hS (bin rfl rfl rfl) rfl fun a w hS => wpList_nil <| then_n <| s_cond hS rfl hM (fun hb4274 hM => ?_) (fun hb4274 hM => ?_)
  ·refine wp_skip ?_
   refine then_n <| wp_seq <| wp_block ?_
   obtain ⟨hk4276, hM⟩ := wp_chk hM
   obtain ⟨A4277, c4278, hw4281, hp4279, hc4280⟩ := hr4270.get hk4276
   obtain ⟨hk4283, hM⟩ := wp_chk hM
   obtain ⟨A4284, c4285, hw4288, hp4286, hc4287⟩ := hr4270.get hk4283
   refine draw_begin (vals := [some (.slice A4206 rw4266.length c4207), some (.int .i64 a_4212), some (.int .i64 i4272), some (.int .i64 (w64 (a_4212 + i4272))), some (.slice A4206 rw4266.length c4207), some (.int .i64 b_4213), some (.int .i64 i4272), some (.int .i64 (w64 (b_4213 + i4272))), some (.slice A4206 rw4266.length c4207), some (.int .i64 b_4213), some (.int .i64 i4272), some (.int .i64 (w64 (b_4213 + i4272))), some (slp A4206 (Int.toNat (w64 (b_4213 + i4272)) * 2)), some (.agg ⟨[.int .i64 ((rd data4267 (w64 (b_4213 + i4272))).often_), .slice A4277 ((rd data4267 (w64 (b_4213 + i4272))).symbols_).length c4278]⟩), some (.slice A4206 rw4266.length c4207), some (.int .i64 a_4212), some (.int .i64 i4272), some (.int .i64 (w64 (a_4212 + i4272))), some (slp A4206 (Int.toNat (w64 (a_4212 + i4272)) * 2)), some (.agg ⟨[.int .i64 ((rd data4267 (w64 (a_4212 + i4272))).often_), .slice A4284 ((rd data4267 (w64 (a_4212 + i4272))).symbols_).length c4285]⟩), some (slp A4206 (Int.toNat (w64 (a_4212 + i4272)) * 2)), none, none, none]) hS mixed rfl ?_
   intro l w ho hcl hA hst
   refine phq hA hst ho hcl navail nmust 21 [0, 1, 2, 3, 4, 5, 6, 7, 8, 9, 10, 11, 12, 13, 14, 15, 16, 17, 18, 19, 20] rfl rfl rfl rfl rfl (by exact ⟨nR rfl rfl rfl rfl rfl (by exact ovE (mv rfl) rfl), nR rfl rfl rfl rfl rfl (by exact ovE (mv rfl) rfl), nR rfl rfl rfl rfl rfl (by exact ovE (mv rfl) rfl), nR rfl rfl rfl rfl rfl (by exact ovE (bin rfl rfl rfl) rfl), nR rfl rfl rfl rfl rfl (by exact ovE (mv rfl) rfl), nR rfl rfl rfl rfl rfl (by exact ovE (mv rfl) rfl), nR rfl rfl rfl rfl rfl (by exact ovE (mv rfl) rfl), nR rfl rfl rfl rfl rfl (by exact ovE (bin rfl rfl rfl) rfl), nR rfl rfl rfl rfl rfl (by exact ovE (mv rfl) rfl), nR rfl rfl rfl rfl rfl (by exact ovE (mv rfl) rfl), nR rfl rfl rfl rfl rfl (by exact ovE (mv rfl) rfl), nR rfl rfl rfl rfl rfl (by exact ovE (bin rfl rfl rfl) rfl), nR rfl rfl rfl rfl rfl (by exact ovE (ixV rfl rfl Tryd.runUnderlying110 Tryd.sizeOf112 (hV4269.rd (i := 1) rfl) Row.len rfl (hr4270.inb hk4276)) rfl), nR rfl rfl rfl rfl rfl (by exact ovE (ovE (ldVA rfl (hV4269.rd (i := 1) rfl) Row.len (hr4270.inb hk4276) Tryd.isAgg112 Tryd.sizeOf112 rfl) (congrArg (fun l => Value.agg ⟨l⟩) hw4281)) rfl), nR rfl rfl rfl rfl rfl (by exact ovE (mv rfl) rfl), nR rfl rfl rfl rfl rfl (by exact ovE (mv rfl) rfl), nR rfl rfl rfl rfl rfl (by exact ovE (mv rfl) rfl), nR rfl rfl rfl rfl rfl (by exact ovE (bin rfl rfl rfl) rfl), nR rfl rfl rfl rfl rfl (by exact ovE (ixV rfl rfl Tryd.runUnderlying110 Tryd.sizeOf112 (hV4269.rd (i := 1) rfl) Row.len rfl (hr4270.inb hk4283)) rfl), nR rfl rfl rfl rfl rfl (by exact ovE (ovE (ldVA rfl (hV4269.rd (i := 1) rfl) Row.len (hr4270.inb hk4283) Tryd.isAgg112 Tryd.sizeOf112 rfl) (congrArg (fun l => Value.agg ⟨l⟩) hw4288)) rfl), nR rfl rfl rfl rfl rfl (by exact ovE (ixV rfl rfl Tryd.runUnderlying110 Tryd.sizeOf112 (hV4269.rd (i := 1) rfl) Row.len rfl (hr4270.inb hk4283)) rfl), trivial⟩) fun D l a w ho hcl hav hpre hm hE hk hA hst => ?_
   have hS := (Ss.mk hE hst).env2 (e' := [(29, .agg ⟨[.int .i64 ((rd data4267 (w64 (b_4213 + i4272))).often_), .slice A4277 ((rd data4267 (w64 (b_4213 + i4272))).symbols_).length c4278]⟩), (36, slp A4206 (Int.toNat (w64 (a_4212 + i4272)) * 2))]) ⟨rfl, rfl, trivial⟩
   refine op_of_nth rfl <| stVR (i := (w64 (a_4212 + i4272))) (sz := 2) 1 (⟨[.int .i64 ((rd data4267 (w64 (b_4213 + i4272))).often_), .slice A4277 ((rd data4267 (w64 (b_4213 + i4272))).symbols_).length c4278], by simp, by simp [Value.oneCell']⟩ : Row 2) hS rfl rfl hV4269 rfl Tryd.sizeOf112 rfl (hr4270.inb hk4283) fun rw4295 w f4293 hz hV4294 hS => ?_
   obtain ⟨zs4296, hzm⟩ := nameE (data4267.set (Int.toNat (w64 (a_4212 + i4272))) (T_huff_packet.mk ((rd data4267 (w64 (b_4213 + i4272))).often_) ((rd data4267 (w64 (b_4213 + i4272))).symbols_)))
   replace hM := lt_to hzm hM
   have hr4297 := RelL.set (x := (T_huff_packet.mk ((rd data4267 (w64 (b_4213 + i4272))).often_) ((rd data4267 (w64 (b_4213 + i4272))).symbols_))) (r := (⟨[.int .i64 ((rd data4267 (w64 (b_4213 + i4272))).often_), .slice A4277 ((rd data4267 (w64 (b_4213 + i4272))).symbols_).length c4278], by simp, by simp [Value.oneCell']⟩ : Row 2)) (Int.toNat (w64 (a_4212 + i4272))) hr4270 (show R_huff_packet p4205 _ _ from ⟨A4277, c4278, rfl, hp4279, hc4280⟩)
   have hz4298 : rw4295.length = rw4266.length := by rw [hz]; exact List.length_set ..
   rw [← hz, ← hzm] at hr4297; clear hz hzm
   have hz4299 := Eq.trans hz4298 hz4271
   refine wpList_nil (then_n ?_)
   replace hst := hS.st
   obtain ⟨hk4301, hM⟩ := wp_chk hM
   obtain ⟨hcl, hmust, hav2, hA⟩ := dnN (vals' := [some (.slice A4206 rw4266.length c4207), some (.int .i64 a_4212), some (.int .i64 i4272), some (.int .i64 (w64 (a_4212 + i4272))), some (.slice A4206 rw4266.length c4207), some (.int .i64 b_4213), some (.int .i64 i4272), some (.int .i64 (w64 (b_4213 + i4272))), some (.slice A4206 rw4266.length c4207), some (.int .i64 b_4213), some (.int .i64 i4272), some (.int .i64 (w64 (b_4213 + i4272))), some (slp A4206 (Int.toNat (w64 (b_4213 + i4272)) * 2)), some (.agg ⟨[.int .i64 ((rd data4267 (w64 (b_4213 + i4272))).often_), .slice A4277 ((rd data4267 (w64 (b_4213 + i4272))).symbols_).length c4278]⟩), some (.slice A4206 rw4266.length c4207), some (.int .i64 a_4212), some (.int .i64 i4272), some (.int .i64 (w64 (a_4212 + i4272))), some (slp A4206 (Int.toNat (w64 (a_4212 + i4272)) * 2)), some (.agg ⟨[.int .i64 ((rd data4267 (w64 (a_4212 + i4272))).often_), .slice A4284 ((rd data4267 (w64 (a_4212 + i4272))).symbols_).length c4285]⟩), some (slp A4206 (Int.toNat (w64 (a_4212 + i4272)) * 2)), some undef, some (slp A4206 (Int.toNat (w64 (b_4213 + i4272)) * 2)), none]) 21 [(0, 21), (1, 21), (2, 21), (3, 21), (8, 21), (9, 21), (10, 21), (11, 21), (12, 21), (13, 21), (19, 21), (20, 21), (18, 19), (14, 18), (17, 18), (15, 17), (16, 17)] hA hcl hav hm hpre rfl rfl rfl rfl rfl
   clear hm hav
   refine phq hA hst ho hcl hav2 hmust 23 [4, 5, 6, 7, 22] rfl rfl rfl rfl rfl (by exact ⟨nR rfl rfl rfl rfl rfl (by exact ovE (mv rfl) rfl), nR rfl rfl rfl rfl rfl (by exact ovE (mv rfl) rfl), nR rfl rfl rfl rfl rfl (by exact ovE (mv rfl) rfl), nR rfl rfl rfl rfl rfl (by exact ovE (bin rfl rfl rfl) rfl), nR rfl rfl rfl rfl rfl (by exact ovE (ixV (lenx hz4298 rfl) rfl Tryd.runUnderlying110 Tryd.sizeOf112 (hV4294.rd (i := 1) rfl) Row.len rfl (hr4297.inb hk4301)) rfl), trivial⟩) fun D l a w ho hcl hav hpre hm hE hk hA hst => ?_
   have hS := (Ss.mk hE hst).env2 (e' := [(35, .agg ⟨[.int .i64 ((rd data4267 (w64 (a_4212 + i4272))).often_), .slice A4284 ((rd data4267 (w64 (a_4212 + i4272))).symbols_).length c4285]⟩), (37, slp A4206 (Int.toNat (w64 (b_4213 + i4272)) * 2))]) ⟨rfl, rfl, trivial⟩
   refine op_of_nth rfl <| stVR (i := (w64 (b_4213 + i4272))) (sz := 2) 1 (⟨[.int .i64 ((rd data4267 (w64 (a_4212 + i4272))).often_), .slice A4284 ((rd data4267 (w64 (a_4212 + i4272))).symbols_).length c4285], by simp, by simp [Value.oneCell']⟩ : Row 2) hS rfl rfl hV4294 rfl Tryd.sizeOf112 rfl (hr4297.inb hk4301) fun rw4308 w f4306 hz hV4307 hS => ?_
   obtain ⟨zs4309, hzm⟩ := nameE (zs4296.set (Int.toNat (w64 (b_4213 + i4272))) (T_huff_packet.mk ((rd data4267 (w64 (a_4212 + i4272))).often_) ((rd data4267 (w64 (a_4212 + i4272))).symbols_)))
   replace hM := lt_to hzm hM
   have hr4310 := RelL.set (x := (T_huff_packet.mk ((rd data4267 (w64 (a_4212 + i4272))).often_) ((rd data4267 (w64 (a_4212 + i4272))).symbols_))) (r := (⟨[.int .i64 ((rd data4267 (w64 (a_4212 + i4272))).often_), .slice A4284 ((rd data4267 (w64 (a_4212 + i4272))).symbols_).length c4285], by simp, by simp [Value.oneCell']⟩ : Row 2)) (Int.toNat (w64 (b_4213 + i4272))) hr4297 (show R_huff_packet p4205 _ _ from ⟨A4284, c4285, rfl, hp4286, hc4287⟩)
   have hz4311 : rw4308.length = rw4295.length := by rw [hz]; exact List.length_set ..
   rw [← hz, ← hzm] at hr4310; clear hz hzm
   have hz4312 := Eq.trans hz4311 hz4299
   refine wpList_nil (then_n ?_)
   replace hst := hS.st
   obtain ⟨hcl, hmust, hav2, hA⟩ := dnN (vals' := [some (.slice A4206 rw4266.length c4207), some (.int .i64 a_4212), some (.int .i64 i4272), some (.int .i64 (w64 (a_4212 + i4272))), some (.slice A4206 rw4266.length c4207), some (.int .i64 b_4213), some (.int .i64 i4272), some (.int .i64 (w64 (b_4213 + i4272))), some (.slice A4206 rw4266.length c4207), some (.int .i64 b_4213), some (.int .i64 i4272), some (.int .i64 (w64 (b_4213 + i4272))), some (slp A4206 (Int.toNat (w64 (b_4213 + i4272)) * 2)), some (.agg ⟨[.int .i64 ((rd data4267 (w64 (b_4213 + i4272))).often_), .slice A4277 ((rd data4267 (w64 (b_4213 + i4272))).symbols_).length c4278]⟩), some (.slice A4206 rw4266.length c4207), some (.int .i64 a_4212), some (.int .i64 i4272), some (.int .i64 (w64 (a_4212 + i4272))), some (slp A4206 (Int.toNat (w64 (a_4212 + i4272)) * 2)), some (.agg ⟨[.int .i64 ((rd data4267 (w64 (a_4212 + i4272))).often_), .slice A4284 ((rd data4267 (w64 (a_4212 + i4272))).symbols_).length c4285]⟩), some (slp A4206 (Int.toNat (w64 (a_4212 + i4272)) * 2)), some undef, some (slp A4206 (Int.toNat (w64 (b_4213 + i4272)) * 2)), some undef]) 23 [(0, 23), (1, 23), (2, 23), (3, 23), (4, 23), (5, 23), (6, 23), (7, 23), (8, 23), (9, 23), (10, 23), (11, 23), (12, 23), (13, 23), (14, 23), (15, 23), (16, 23), (17, 23), (18, 23), (19, 23), (20, 23), (21, 23), (22, 23)] hA hcl hav hm hpre rfl rfl rfl rfl rfl
   clear hm hav
   refine phqE hA hst ho hcl hmust [] rfl rfl rfl trivial fun a w hS => ?_
   replace hS := hS.env2 (e' := [(0, .slice A4206 rw4308.length c4207), (1, .int .i64 a_4212), (2, .int .i64 b_4213), (3, .int .i64 n_4214), (10, .int .i64 i4272)]) ⟨(relk (u := .slice A4206 rw4266.length c4207) rfl (by rw [hz4311, hz4298])), rfl, rfl, rfl, rfl, trivial⟩
   refine blk_n (then_n ?_)
   refine wp_region_list <| st1 hS (mv rfl) rfl fun a w hS => st1 hS (bin rfl rfl rfl) rfl fun a w hS => st1x (v := Value.int .i64) (x0 := (w64 (i4272 + (1 : Int)))) hS (asg rfl) rfl fun i4313 a w hz hS => ?_
   have hM := lt_to hz hM; clear hz
   refine wpList_nil <| then_n ?_
   exact hJ4314 _ _ ⟨rw4308, zs4309, f4306, i4313, hS.to [0, 1] (by kernel_rfl) ⟨rfl, rfl, rfl, rfl, rfl, trivial⟩, hV4307, hr4310, hz4312, hM⟩
  ·refine wp_exit ?_
   refine then_ex (then_ex (blk_same ?_))
   exact s_end (rs := []) hS rfl rfl (hret rw4266 data4267 f4268 w (wp_ok hM) hV4269 hr4270 hz4271 (hS.st.pick [0, 1] (by kernel_rfl)))

theorem slices_rotateCmpFunc_huff_packet__b6e1_b35e_c {H : Imm} {F : List Frag} {w : World} {R : Ending → World → Prop} {kr : (List T_huff_packet) → Prop} {kp : Value → Prop} (hG : Gl H) (K : Nat) (data4184 : List T_huff_packet) (a_4192 : Int) (m4193 : Int) (b_4194 : Int) (p4185 : Frag) (A4186 : Option Addr) (c4187 : Nat) (rw4188 : List (Row 2)) (f4190 : Frag) (hr4189 : RelL (R_huff_packet p4185) data4184 rw4188) (hV4191 : Vec 112 (Row.v (sz := 2)) 2 A4186 rw4188 c4187 f4190)
    (hS : St w H [p4185, f4190] F) (hm : (slices_rotateCmpFunc_huff_packet__b6e1_b35e.m K data4184 a_4192 m4193 b_4194).wp kr kp)
    (hret : ∀ (rw4388 : List (Row 2)) (data4389 : (List T_huff_packet)) (f4390 : Frag) (w : World), kr data4389 → (Vec 112 (Row.v (sz := 2)) 2 A4186 rw4388 c4187 f4390) → (RelL (R_huff_packet p4185) data4389 rw4388) → (rw4388.length = rw4188.length) → St w H [p4185, f4390] F → R (.returned (.tuple ⟨[]⟩)) w) :
    Calls Tryd.prog 108 ⟨[.slice A4186 rw4188.length c4187, .int .i64 a_4192, .int .i64 m4193, .int .i64 b_4194, fnv 84 [] []]⟩ w R := by
 refine enter Tryd.func108 rfl Tryd.ntmps108 rfl hS fun a w hS => ?_
 have hM := hm; clear hm
 rw [slices_rotateCmpFunc_huff_packet__b6e1_b35e.m] at hM
 have hs4195 : ∀ q ∈ p4185, q ∈ p4185 := fun _ h => h
 have hz4196 : rw4188.length = rw4188.length := rfl
 refine wp_seq <| wp_region_list <| st1 hS (mv rfl) rfl fun a w hS => st1 hS (mv rfl) rfl fun a w hS => st1 hS (bin rfl rfl rfl) rfl fun a w hS => st1x (v := Value.int .i64) (x0 := (w64 (m4193 - a_4192))) hS (asg rfl) rfl fun i4197 a w hz hS => ?_
 have hM := lt_to hz hM; clear hz
 refine wpList_nil <| then_n <| wp_seq <| wp_region_list <| st1 hS (mv rfl) rfl fun a w hS => st1 hS (mv rfl) rfl fun a w hS => st1 hS (bin rfl rfl rfl) rfl fun a w hS => st1x (v := Value.int .i64) (x0 := (w64 (b_4194 - m4193))) hS (asg rfl) rfl fun j4198 a w hz hS => ?_
 have hM := lt_to hz hM; clear hz
 refine wpList_nil <| then_n <| seq_joinJ (fun a w => ∃ (rw4373 : List (Row 2)) (data4374 : (List T_huff_packet)) (f4375 : Frag) (i4379 : Int), Ss 58 [] [(0, .slice A4186 rw4373.length c4187), (2, .int .i64 m4193), (4, fnv 84 [] []), (10, .int .i64 i4379)] H [p4185, f4375] F a w ∧ (Vec 112 (Row.v (sz := 2)) 2 A4186 rw4373 c4187 f4375) ∧ (RelL (R_huff_packet p4185) data4374 rw4373) ∧ (rw4373.length = rw4188.length) ∧ (slices_rotateCmpFunc_huff_packet__b6e1_b35e.j2 K m4193 data4374 i4379).wp kr kp) (fun J4380 hJ4380 => ?_) ?_
 ·refine wp_block ?_
  refine s_loopJ (fun k4353 a w => ∃ (rw4345 : List (Row 2)) (data4346 : (List T_huff_packet)) (f4347 : Frag) (i4351 : Int) (j4352 : Int), Ss 58 [] [(0, .slice A4186 rw4345.length c4187), (2, .int .i64 m4193), (4, fnv 84 [] []), (10, .int .i64 i4351), (11, .int .i64 j4352)] H [p4185, f4347] F a w ∧ (Vec 112 (Row.v (sz := 2)) 2 A4186 rw4345 c4187 f4347) ∧ (RelL (R_huff_packet p4185) data4346 rw4345) ∧ (rw4345.length = rw4188.length) ∧ (slices_rotateCmpFunc_huff_packet__b6e1_b35e.l1 K m4193 k4353 data4346 i4351 j4352).wp kr kp) K ?_ ?_ ?_
  ·exact ⟨rw4188, data4184, f4190, i4197, j4198, hS.to [0, 1] (by kernel_rfl) ⟨rfl, rfl, rfl, rfl, rfl, trivial⟩, hV4191, hr4189, hz4196, hM⟩
  ·intro a w hI; obtain ⟨_, _, _, _, _, _, _, _, _, hM⟩ := hI; exact wp_fail hM
  ·intro k4353 a w hI J4372 hJ4372
   obtain ⟨rw4345, data4346, f4347, i4351, j4352, hS, hV4348, hr4349, hz4350, hM⟩ := hI
   rw [slices_rotateCmpFunc_huff_packet__b6e1_b35e.l1] at hM
   refine wp_seq <| wp_seq <| wp_region_list <| st1 hS (mv rfl) rfl fun a w hS => st1 hS (mv rfl) rfl fun a w hS => st1 hS (bin rfl rfl rfl) rfl fun a w hS => wpList_nil <| then_n <| s_cond hS rfl hM (fun hb4354 hM => ?_) (fun hb4354 hM => ?_)
   ·refine wp_skip ?_
    refine then_n <| wp_block <| wp_seq <| wp_region_list <| st1 hS (mv rfl) rfl fun a w hS => st1 hS (mv rfl) rfl fun a w hS => st1 hS (bin rfl rfl rfl) rfl fun a w hS => wpList_nil <| then_n <| s_cond hS rfl hM (fun hb4355 hM => ?_) (fun hb4355 hM => ?_)
    ·refine wp_seq ?_
     refine wp_region_list <| st1 hS (mv rfl) rfl fun a w hS => st1 hS (mv rfl) rfl fun a w hS => st1 hS (mv rfl) rfl fun a w hS => st1 hS (bin rfl rfl rfl) rfl fun a w hS => st1 hS (mv rfl) rfl fun a w hS => st1 hS (mv rfl) rfl fun a w hS => st1 hS (mv rfl) rfl fun a w hS => s_call hS rfl Tryd.call109 (slices_swapRangeCmpFunc_huff_packet__b6e1_b35e_c hG K data4346 (w64 (m4193 - i4351)) m4193 j4352 p4185 A4186 c4187 rw4345 f4347 hr4349 hV4348 (hS.st.part 2 [0, 1] (by kernel_rfl)) (wp_bind hM) (fun rw4356 data4357 f4358 w hM h4359 h4360 h4361 hst => s_back hS.ev hst.appF rfl fun hS => ?_))
     replace hS : Ss _ _ _ H [p4185, f4358] F _ _ := hS
     have hz4362 := Eq.trans h4361 hz4350
     replace hS := hS.re 0 (u := .slice A4186 rw4345.length c4187) (v := .slice A4186 rw4356.length c4187) rfl (by rw [h4361])
     replace hS := hS.re 24 (u := .slice A4186 rw4345.length c4187) (v := .slice A4186 rw4356.length c4187) rfl (by rw [h4361])
     refine wpList_nil <| then_n <| wp_region_list <| st1 hS (mv rfl) rfl fun a w hS => st1 hS (mv rfl) rfl fun a w hS => st1 hS (bin rfl rfl rfl) rfl fun a w hS => st1x (v := Value.int .i64) (x0 := (w64 (i4351 - j4352))) hS (asg rfl) rfl fun i4363 a w hz hS => ?_
     have hM := lt_to hz hM; clear hz
     refine wpList_nil <| blk_n (then_n ?_)
     exact hJ4372 _ _ ⟨rw4356, data4357, f4358, i4363, j4352, hS.to [0, 1] (by kernel_rfl) ⟨rfl, rfl, rfl, rfl, rfl, trivial⟩, h4359, h4360, hz4362, hM⟩
    ·refine wp_seq ?_
     refine wp_region_list <| st1 hS (mv rfl) rfl fun a w hS => st1 hS (mv rfl) rfl fun a w hS => st1 hS (mv rfl) rfl fun a w hS => st1 hS (bin rfl rfl rfl) rfl fun a w hS => st1 hS (mv rfl) rfl fun a w hS => st1 hS (mv rfl) rfl fun a w hS => st1 hS (bin rfl rfl rfl) rfl fun a w hS => st1 hS (mv rfl) rfl fun a w hS => st1 hS (bin rfl rfl rfl) rfl fun a w hS => st1 hS (mv rfl) rfl fun a w hS => st1 hS (mv rfl) rfl fun a w hS => s_call hS rfl Tryd.call109 (slices_swapRangeCmpFunc_huff_packet__b6e1_b35e_c hG K data4346 (w64 (m4193 - i4351)) (w64 ((w64 (m4193 + j4352)) - i4351)) i4351 p4185 A4186 c4187 rw4345 f4347 hr4349 hV4348 (hS.st.part 2 [0, 1] (by kernel_rfl)) (wp_bind hM) (fun rw4364 data4365 f4366 w hM h4367 h4368 h4369 hst => s_back hS.ev hst.appF rfl fun hS => ?_))
     replace hS : Ss _ _ _ H [p4185, f4366] F _ _ := hS
     have hz4370 := Eq.trans h4369 hz4350
     replace hS := hS.re 0 (u := .slice A4186 rw4345.length c4187) (v := .slice A4186 rw4364.length c4187) rfl (by rw [h4369])
     replace hS := hS.re 35 (u := .slice A4186 rw4345.length c4187) (v := .slice A4186 rw4364.length c4187) rfl (by rw [h4369])
     refine wpList_nil <| then_n <| wp_region_list <| st1 hS (mv rfl) rfl fun a w hS => st1 hS (mv rfl) rfl fun a w hS => st1 hS (bin rfl rfl rfl) rfl fun a w hS => st1x (v := Value.int .i64) (x0 := (w64 (j4352 - i4351))) hS (asg rfl) rfl fun j4371 a w hz hS => ?_
     have hM := lt_to hz hM; clear hz
     refine wpList_nil <| blk_n (then_n ?_)
     exact hJ4372 _ _ ⟨rw4364, data4365, f4366, i4351, j4371, hS.to [0, 1] (by kernel_rfl) ⟨rfl, rfl, rfl, rfl, rfl, trivial⟩, h4367, h4368, hz4370, hM⟩
   ·refine wp_exit ?_
    refine then_ex (then_ex (blk_same (then_n ?_)))
    exact hJ4380 _ _ ⟨rw4345, data4346, f4347, i4351, hS.to [0, 1] (by kernel_rfl) ⟨rfl, rfl, rfl, rfl, trivial⟩, hV4348, hr4349, hz4350, hM⟩
 ·intro a w hI
  obtain ⟨rw4373, data4374, f4375, i4379, hS, hV4376, hr4377, hz4378, hM⟩ := hI
  rw [slices_rotateCmpFunc_huff_packet__b6e1_b35e.j2] at hM
  refine wp_region_list <| st1 hS (mv rfl) rfl fun a w hS => st1 hS (mv rfl) rfl fun a w hS => st1 hS (mv rfl) rfl fun a w hS => st1 hS (bin rfl rfl rfl) rfl fun a w hS => st1 hS (mv rfl) rfl fun a w hS => st1 hS (mv rfl) rfl fun a w hS => st1 hS (mv rfl) rfl fun a w hS => s_call hS rfl Tryd.call109 (slices_swapRangeCmpFunc_huff_packet__b6e1_b35e_c hG K data4374 (w64 (m4193 - i4379)) m4193 i4379 p4185 A4186 c4187 rw4373 f4375 hr4377 hV4376 (hS.st.part 2 [0, 1] (by kernel_rfl)) (wp_bind hM) (fun rw4381 data4382 f4383 w hM h4384 h4385 h4386 hst => s_back hS.ev hst.appF rfl fun hS => ?_))
  replace hS : Ss _ _ _ H [p4185, f4383] F _ _ := hS
  have hz4387 := Eq.trans h4386 hz4378
  replace hS := hS.re 0 (u := .slice A4186 rw4373.length c4187) (v := .slice A4186 rw4381.length c4187) rfl (by rw [h4386])
  replace hS := hS.re 50 (u := .slice A4186 rw4373.length c4187) (v := .slice A4186 rw4381.length c4187) rfl (by rw [h4386])
  refine wpList_nil ?_
  exact s_end (rs := []) hS rfl rfl (hret rw4381 data4382 f4383 w (wp_ok hM) h4384 h4385 hz4387 (hS.st.pick [0, 1] (by kernel_rfl)))
end Go.TrydS
