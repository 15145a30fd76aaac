/- Printed by a program of mine: each Go function answers what its model answers; conditions: what each theorem asks of memory. -/
import Derived.Test.YtfjejpdilghhpaaDoorP2InflateReads
set_option linter.unusedVariables false
set_option linter.unusedSimpArgs false
namespace Go.TrydS
open Go Go.Sl Go.Mo Go.Proofs
theorem mortiseref07_state_head_c {H : Imm} {F : List Frag} {w : World} {R : Ending → World → Prop} {kr : (Int × Int × (List Int) × (List Int) × Int × Int) → Prop} {kp : Value → Prop} (hG : Gl H) (K : Nat) (s2442 : T_mortiseref07_state) (b2443 : Nat) (f2444 : Frag) (b2446 : Nat) (f2447 : Frag) (A2449 : Option Addr) (c2450 : Nat) (f2451 : Frag) (hB2445 : Blk f2444 b2443 ([ptr b2446 0, .slice A2449 s2442.out_.length c2450, .int .i64 s2442.limit_]) 51) (hB2448 : Blk f2447 b2446 ([str s2442.r_.S_, .int .i64 s2442.r_.At_]) 49) (hV2452 : Vec 5 (ci .u8) 1 A2449 s2442.out_ c2450 f2451)
    (hS : St w H [f2444, f2447, f2451] F) (hm : (mortiseref07_state_head.m K s2442).wp kr kp)
    (hret : ∀ (x2618 : Int) (x2619 : Int) (A2620 : Option Addr) (c2621 : Nat) (l_2622 : (List Int)) (f2623 : Frag) (A2625 : Option Addr) (c2626 : Nat) (codes2627 : (List Int)) (f2628 : Frag) (x2630 : Int) (at_2631 : Int) (f2632 : Frag) (w : World), kr (x2618, x2619, l_2622, codes2627, x2630, at_2631) → (Vec 3 (ci .i64) 1 A2620 l_2622 c2621 f2623) → (Vec 3 (ci .i64) 1 A2625 codes2627 c2626 f2628) → (Blk f2632 b2446 ([str s2442.r_.S_, .int .i64 at_2631]) 49) → St w H [f2623, f2628, f2444, f2632, f2451] F → R (.returned (.tuple ⟨[.int .i64 x2618, .int .i64 x2619, .agg ⟨[.slice A2620 l_2622.length c2621, .slice A2625 codes2627.length c2626]⟩, .int .i64 x2630]⟩)) w) :
    Calls Tryd.prog 45 ⟨[ptr b2443 0]⟩ w R := by
  refine enter Tryd.func45 rfl Tryd.ntmps45 rfl hS fun a w hS => ?_
  have hM := hm; clear hm
  rw [mortiseref07_state_head.m] at hM
  refine wp_seq ?_
  refine wp_region_list ?_
  refine st1 hS (asg rfl) rfl fun a w hS => ?_
  refine st1 hS (asg rfl) rfl fun a w hS => ?_
  refine alc ([.slice none 0 0, .slice none 0 0]) hS Tryd.zeroValue71 rfl rfl fun w b2453 f2454 hB2455 hS => ?_
  obtain ⟨f2456, hV2457, hS⟩ := hS.nilV 3 (ci .i64) 1
  obtain ⟨f2458, hV2459, hS⟩ := hS.nilV 3 (ci .i64) 1
  refine st1 hS (asg rfl) rfl fun a w hS => ?_
  refine wpList_nil ?_
  refine then_n ?_
  refine wp_seq ?_
  refine wp_region_list ?_
  refine st1 hS (mv rfl) rfl fun a w hS => ?_
  refine s_call hS rfl Tryd.call27 (mortiseref07_state_bits_c hG K s2442 (5 : Int) (257 : Int) b2443 f2444 b2446 f2447 A2449 c2450 f2451 hB2445 hB2448 hV2452 (hS.st.part 3 [3, 4, 5, 0, 1, 2] (by kernel_rfl)) (wp_bind hM) (fun x2460 x2461 at_2462 f2463 w hM h2464 hst => s_back hS.ev hst.appF rfl fun hS => ?_))
  replace hS : Ss _ _ _ H [f2444, f2463, f2451, f2458, f2456, f2454] F _ _ := hS
  refine st1 hS (mv rfl) rfl fun a w hS => ?_
  refine st1 hS (ex rfl rfl) rfl fun a w hS => ?_
  refine st1 hS (ex rfl rfl) rfl fun a w hS => ?_
  refine st1 hS (asg rfl) rfl fun a w hS => ?_
  refine st1 hS (asg rfl) rfl fun a w hS => ?_
  refine wpList_nil ?_
  refine then_n ?_
  refine wp_seq ?_
  refine wp_seq ?_
  refine wp_region_list ?_
  refine st1 hS (mv rfl) rfl fun a w hS => ?_
  refine st1 hS (bin rfl rfl rfl) rfl fun a w hS => ?_
  refine wpList_nil ?_
  refine then_n ?_
  refine s_cond hS rfl hM (fun hb2465 hM => ?_) (fun hb2465 hM => ?_)
  · refine wp_seq ?_
    refine wp_region_list ?_
    refine st1 hS (bld ([.slice none 0 0, .slice none 0 0]) [(0, 1), (1, 1)] Tryd.zeroValue71 Tryd.runUnderlying71 (by intro w; simp [Tryd.sizeOf67]) rfl rfl) rfl fun a w hS => ?_
    refine st1 hS (mv rfl) rfl fun a w hS => ?_
    refine st1 hS (asg rfl) rfl fun a w hS => ?_
    refine st1 hS (asg rfl) rfl fun a w hS => ?_
    refine stB 5 ([.slice none 0 0, .slice none 0 0]) ([.slice none 0 0, .slice none 0 0]) hS rfl rfl hB2455 rfl rfl Tryd.sizeOf71 (by simp [Value.oneCell']) (Nat.le_of_ble_eq_true rfl) rfl fun w f2466 hB2467 hS => ?_
    obtain ⟨f2468, hV2469, hS⟩ := hS.nilV 3 (ci .i64) 1
    obtain ⟨f2470, hV2471, hS⟩ := hS.nilV 3 (ci .i64) 1
    refine st1 hS (asg rfl) rfl fun a w hS => ?_
    refine wpList_nil ?_
    refine then_n ?_
    refine wp_ret ?_
    refine then_ret ?_
    exact s_retC (vs := [.int .i64 (0 : Int), .int .i64 (0 : Int), .agg ⟨[.slice none ([] : List Int).length (0), .slice none ([] : List Int).length (0)]⟩, .int .i64 x2461]) hS rfl (by exact ⟨rvT rfl, rvT rfl, rvA 7 ([.slice none ([] : List Int).length (0), .slice none ([] : List Int).length (0)]) rfl hB2467 rfl rfl rfl Tryd.isAgg71 Tryd.sizeOf71, rvT rfl, trivial⟩) (hret (0 : Int) (0 : Int) none (0) ([] : List Int) f2468 none (0) ([] : List Int) f2470 x2461 at_2462 f2463 w hM hV2469 hV2471 h2464 (hS.st.pick [1, 0, 2, 3, 4] (by kernel_rfl)))
  · refine wp_skip ?_
    refine then_n ?_
    refine wp_seq ?_
    refine wp_region_list ?_
    refine st1 hS (mv rfl) rfl fun a w hS => ?_
    refine s_call hS rfl Tryd.call27 (mortiseref07_state_bits_c hG K (T_mortiseref07_state.mk (T_mortiseref05_Reader.mk s2442.r_.S_ at_2462) s2442.out_ s2442.limit_) (5 : Int) (1 : Int) b2443 f2444 b2446 f2463 A2449 c2450 f2451 hB2445 h2464 hV2452 (hS.st.part 3 [0, 1, 2, 3, 4, 5] (by kernel_rfl)) (wp_bind hM) (fun x2472 x2473 at_2474 f2475 w hM h2476 hst => s_back hS.ev hst.appF rfl fun hS => ?_))
    replace hS : Ss _ _ _ H [f2444, f2475, f2451, f2458, f2456, f2454] F _ _ := hS
    refine st1 hS (mv rfl) rfl fun a w hS => ?_
    refine st1 hS (ex rfl rfl) rfl fun a w hS => ?_
    refine st1 hS (ex rfl rfl) rfl fun a w hS => ?_
    refine st1 hS (asg rfl) rfl fun a w hS => ?_
    refine st1 hS (asg rfl) rfl fun a w hS => ?_
    refine wpList_nil ?_
    refine then_n ?_
    refine wp_seq ?_
    refine wp_seq ?_
    refine wp_region_list ?_
    refine st1 hS (mv rfl) rfl fun a w hS => ?_
    refine st1 hS (bin rfl rfl rfl) rfl fun a w hS => ?_
    refine wpList_nil ?_
    refine then_n ?_
    refine s_cond hS rfl hM (fun hb2477 hM => ?_) (fun hb2477 hM => ?_)
    · refine wp_seq ?_
      refine wp_region_list ?_
      refine st1 hS (bld ([.slice none 0 0, .slice none 0 0]) [(0, 1), (1, 1)] Tryd.zeroValue71 Tryd.runUnderlying71 (by intro w; simp [Tryd.sizeOf67]) rfl rfl) rfl fun a w hS => ?_
      refine st1 hS (mv rfl) rfl fun a w hS => ?_
      refine st1 hS (asg rfl) rfl fun a w hS => ?_
      refine st1 hS (asg rfl) rfl fun a w hS => ?_
      refine stB 5 ([.slice none 0 0, .slice none 0 0]) ([.slice none 0 0, .slice none 0 0]) hS rfl rfl hB2455 rfl rfl Tryd.sizeOf71 (by simp [Value.oneCell']) (Nat.le_of_ble_eq_true rfl) rfl fun w f2478 hB2479 hS => ?_
      obtain ⟨f2480, hV2481, hS⟩ := hS.nilV 3 (ci .i64) 1
      obtain ⟨f2482, hV2483, hS⟩ := hS.nilV 3 (ci .i64) 1
      refine st1 hS (asg rfl) rfl fun a w hS => ?_
      refine wpList_nil ?_
      refine then_n ?_
      refine wp_ret ?_
      refine then_ret ?_
      exact s_retC (vs := [.int .i64 (0 : Int), .int .i64 (0 : Int), .agg ⟨[.slice none ([] : List Int).length (0), .slice none ([] : List Int).length (0)]⟩, .int .i64 x2473]) hS rfl (by exact ⟨rvT rfl, rvT rfl, rvA 7 ([.slice none ([] : List Int).length (0), .slice none ([] : List Int).length (0)]) rfl hB2479 rfl rfl rfl Tryd.isAgg71 Tryd.sizeOf71, rvT rfl, trivial⟩) (hret (0 : Int) (0 : Int) none (0) ([] : List Int) f2480 none (0) ([] : List Int) f2482 x2473 at_2474 f2475 w hM hV2481 hV2483 h2476 (hS.st.pick [1, 0, 2, 3, 4] (by kernel_rfl)))
    · refine wp_skip ?_
      refine then_n ?_
      refine wp_seq ?_
      refine wp_region_list ?_
      refine st1 hS (mv rfl) rfl fun a w hS => ?_
      refine s_call hS rfl Tryd.call27 (mortiseref07_state_bits_c hG K (T_mortiseref07_state.mk (T_mortiseref05_Reader.mk s2442.r_.S_ at_2474) s2442.out_ s2442.limit_) (4 : Int) (4 : Int) b2443 f2444 b2446 f2475 A2449 c2450 f2451 hB2445 h2476 hV2452 (hS.st.part 3 [0, 1, 2, 3, 4, 5] (by kernel_rfl)) (wp_bind hM) (fun x2484 x2485 at_2486 f2487 w hM h2488 hst => s_back hS.ev hst.appF rfl fun hS => ?_))
      replace hS : Ss _ _ _ H [f2444, f2487, f2451, f2458, f2456, f2454] F _ _ := hS
      refine st1 hS (mv rfl) rfl fun a w hS => ?_
      refine st1 hS (ex rfl rfl) rfl fun a w hS => ?_
      refine st1 hS (ex rfl rfl) rfl fun a w hS => ?_
      refine st1 hS (asg rfl) rfl fun a w hS => ?_
      refine st1 hS (asg rfl) rfl fun a w hS => ?_
      refine wpList_nil ?_
      refine then_n ?_
      refine wp_seq ?_
      refine wp_seq ?_
      refine wp_region_list ?_
      refine st1 hS (mv rfl) rfl fun a w hS => ?_
      refine st1 hS (bin rfl rfl rfl) rfl fun a w hS => ?_
      refine wpList_nil ?_
      refine then_n ?_
      refine s_cond hS rfl hM (fun hb2489 hM => ?_) (fun hb2489 hM => ?_)
      · refine wp_seq ?_
        refine wp_region_list ?_
        refine st1 hS (bld ([.slice none 0 0, .slice none 0 0]) [(0, 1), (1, 1)] Tryd.zeroValue71 Tryd.runUnderlying71 (by intro w; simp [Tryd.sizeOf67]) rfl rfl) rfl fun a w hS => ?_
        refine st1 hS (mv rfl) rfl fun a w hS => ?_
        refine st1 hS (asg rfl) rfl fun a w hS => ?_
        refine st1 hS (asg rfl) rfl fun a w hS => ?_
        refine stB 5 ([.slice none 0 0, .slice none 0 0]) ([.slice none 0 0, .slice none 0 0]) hS rfl rfl hB2455 rfl rfl Tryd.sizeOf71 (by simp [Value.oneCell']) (Nat.le_of_ble_eq_true rfl) rfl fun w f2490 hB2491 hS => ?_
        obtain ⟨f2492, hV2493, hS⟩ := hS.nilV 3 (ci .i64) 1
        obtain ⟨f2494, hV2495, hS⟩ := hS.nilV 3 (ci .i64) 1
        refine st1 hS (asg rfl) rfl fun a w hS => ?_
        refine wpList_nil ?_
        refine then_n ?_
        refine wp_ret ?_
        refine then_ret ?_
        exact s_retC (vs := [.int .i64 (0 : Int), .int .i64 (0 : Int), .agg ⟨[.slice none ([] : List Int).length (0), .slice none ([] : List Int).length (0)]⟩, .int .i64 x2485]) hS rfl (by exact ⟨rvT rfl, rvT rfl, rvA 7 ([.slice none ([] : List Int).length (0), .slice none ([] : List Int).length (0)]) rfl hB2491 rfl rfl rfl Tryd.isAgg71 Tryd.sizeOf71, rvT rfl, trivial⟩) (hret (0 : Int) (0 : Int) none (0) ([] : List Int) f2492 none (0) ([] : List Int) f2494 x2485 at_2486 f2487 w hM hV2493 hV2495 h2488 (hS.st.pick [1, 0, 2, 3, 4] (by kernel_rfl)))
      · refine wp_skip ?_
        refine then_n ?_
        refine wp_seq ?_
        refine wp_seq ?_
        refine wp_region_list ?_
        refine st1 hS (mv rfl) rfl fun a w hS => ?_
        refine st1 hS (bin rfl rfl rfl) rfl fun a w hS => ?_
        refine st1 hS (mv rfl) rfl fun a w hS => ?_
        refine g_op 2 false 49 (b := (decide (x2460 > (286 : Int)))) (r := (decide (x2472 > (30 : Int)))) hS rfl rfl rfl rfl rfl rfl rfl (fun hb a w hS K hK => ?_) rfl fun a w hS => ?_
        · refine st1g hS rfl rfl rfl hb (mv rfl) rfl fun a w hS => ?_
          refine st1g hS rfl rfl rfl hb (bin rfl rfl rfl) rfl fun a w hS => ?_
          exact wpList_nil (hK _ _ (hS.up 2 rfl rfl))
        refine wpList_nil ?_
        refine then_n ?_
        refine s_cond hS rfl hM (fun hb2496 hM => ?_) (fun hb2496 hM => ?_)
        · refine wp_seq ?_
          refine wp_region_list ?_
          refine st1 hS (bld ([.slice none 0 0, .slice none 0 0]) [(0, 1), (1, 1)] Tryd.zeroValue71 Tryd.runUnderlying71 (by intro w; simp [Tryd.sizeOf67]) rfl rfl) rfl fun a w hS => ?_
          refine st1 hS (asg rfl) rfl fun a w hS => ?_
          refine st1 hS (asg rfl) rfl fun a w hS => ?_
          refine stB 5 ([.slice none 0 0, .slice none 0 0]) ([.slice none 0 0, .slice none 0 0]) hS rfl rfl hB2455 rfl rfl Tryd.sizeOf71 (by simp [Value.oneCell']) (Nat.le_of_ble_eq_true rfl) rfl fun w f2497 hB2498 hS => ?_
          obtain ⟨f2499, hV2500, hS⟩ := hS.nilV 3 (ci .i64) 1
          obtain ⟨f2501, hV2502, hS⟩ := hS.nilV 3 (ci .i64) 1
          refine st1 hS (asg rfl) rfl fun a w hS => ?_
          refine wpList_nil ?_
          refine then_n ?_
          refine wp_ret ?_
          refine then_ret ?_
          exact s_retC (vs := [.int .i64 (0 : Int), .int .i64 (0 : Int), .agg ⟨[.slice none ([] : List Int).length (0), .slice none ([] : List Int).length (0)]⟩, .int .i64 (3 : Int)]) hS rfl (by exact ⟨rvT rfl, rvT rfl, rvA 7 ([.slice none ([] : List Int).length (0), .slice none ([] : List Int).length (0)]) rfl hB2498 rfl rfl rfl Tryd.isAgg71 Tryd.sizeOf71, rvT rfl, trivial⟩) (hret (0 : Int) (0 : Int) none (0) ([] : List Int) f2499 none (0) ([] : List Int) f2501 (3 : Int) at_2486 f2487 w hM hV2500 hV2502 h2488 (hS.st.pick [1, 0, 2, 3, 4] (by kernel_rfl)))
        · refine wp_skip ?_
          refine then_n ?_
          refine wp_seq ?_
          refine wp_region_list ?_
          obtain ⟨hk2503, hM⟩ := wp_chk hM
          refine mkS (g := (ci .i64)) (0 : Int) hS rfl rfl (by simp) Tryd.runUnderlying67 X.el3 (fun w => ⟨_, Tryd.zeroValue3 w, rfl⟩) (fun _ => rfl) rfl rfl hk2503 rfl fun zs2508 w A2504 c2505 f2506 hz hV2507 hS => ?_
          have hM := lt_to hz hM; clear hz
          refine st1 hS (asg rfl) rfl fun a w hS => ?_
          refine wpList_nil ?_
          refine then_n ?_
          refine wp_seq ?_
          refine wp_region_list ?_
          refine s_call hS rfl Tryd.call54 (mortiseref07_Order_c hG K  (hS.st.part 0 [0, 1, 2, 3, 4, 5, 6] (by kernel_rfl)) (wp_bind hM) (fun A2519 c2520 f2521 w hM h2522 hst => s_back hS.ev hst.appF rfl fun hS => ?_))
          replace hS : Ss _ _ _ H [f2521, f2506, f2444, f2487, f2451, f2458, f2456, f2454] F _ _ := hS
          refine st1 hS (asg rfl) rfl fun a w hS => ?_
          refine wpList_nil ?_
          refine then_n ?_
          refine wp_seq ?_
          refine wp_region_list ?_
          refine st1 hS (asg rfl) rfl fun a w hS => ?_
          refine wpList_nil ?_
          refine then_n ?_
          refine seq_joinJ (fun a w => ∃ (at_2586 : Int) (f2587 : Frag) (l_2589 : (List Int)) (f2590 : Frag) (any2592 : Bool), Ss 97 [] [(4, ptr b2453 0), (6, .int .i64 x2460), (8, .int .i64 x2472), (12, .slice A2504 l_2589.length c2505), (14, .bool any2592)] H [f2444, f2587, f2451, f2454, f2456, f2458, f2590] F a w ∧ (Blk f2587 b2446 ([str s2442.r_.S_, .int .i64 at_2586]) 49) ∧ (Vec 3 (ci .i64) 1 A2504 l_2589 c2505 f2590) ∧ (mortiseref07_state_head.j2 K x2460 x2472 at_2586 l_2589 any2592).wp kr kp) (fun J2593 hJ2593 => ?_) ?_
          · refine wp_seq ?_
            refine wp_region_list ?_
            refine st1 hS (asg rfl) rfl fun a w hS => ?_
            refine wpList_nil ?_
            refine then_n ?_
            refine wp_block ?_
            refine s_loopJ (fun k2563 a w => ∃ (at_2555 : Int) (f2556 : Frag) (l_2558 : (List Int)) (f2559 : Frag) (any2561 : Bool) (i2562 : Int), Ss 97 [] [(0, ptr b2443 0), (4, ptr b2453 0), (6, .int .i64 x2460), (8, .int .i64 x2472), (10, .int .i64 x2484), (12, .slice A2504 l_2558.length c2505), (13, .slice A2519 ([(16 : Int), (17 : Int), (18 : Int), (0 : Int), (8 : Int), (7 : Int), (9 : Int), (6 : Int), (10 : Int), (5 : Int), (11 : Int), (4 : Int), (12 : Int), (3 : Int), (13 : Int), (2 : Int), (14 : Int), (1 : Int), (15 : Int)] : List Int).length c2520), (14, .bool any2561), (15, .int .i64 i2562)] H [f2444, f2556, f2451, f2454, f2456, f2458, f2559, f2521] F a w ∧ (Blk f2556 b2446 ([str s2442.r_.S_, .int .i64 at_2555]) 49) ∧ (Vec 3 (ci .i64) 1 A2504 l_2558 c2505 f2559) ∧ (mortiseref07_state_head.l1 K s2442 x2460 x2472 x2484 k2563 at_2555 l_2558 any2561 i2562).wp kr kp) K ?_ ?_ ?_
            · exact ⟨at_2486, f2487, zs2508, f2506, false, (0 : Int), hS.to [2, 3, 4, 7, 6, 5, 1, 0] (by kernel_rfl) ⟨rfl, rfl, rfl, rfl, rfl, rfl, rfl, rfl, rfl, trivial⟩, h2488, hV2507, hM⟩
            · intro a w hI; obtain ⟨_, _, _, _, _, _, _, _, _, hM⟩ := hI; exact hM
            · intro k2563 a w hI J2585 hJ2585
              obtain ⟨at_2555, f2556, l_2558, f2559, any2561, i2562, hS, hB2557, hV2560, hM⟩ := hI
              rw [mortiseref07_state_head.l1] at hM
              refine wp_seq ?_
              refine wp_seq ?_
              refine wp_region_list ?_
              refine st1 hS (mv rfl) rfl fun a w hS => ?_
              refine st1 hS (mv rfl) rfl fun a w hS => ?_
              refine st1 hS (bin rfl rfl rfl) rfl fun a w hS => ?_
              refine wpList_nil ?_
              refine then_n ?_
              refine s_cond hS rfl hM (fun hb2564 hM => ?_) (fun hb2564 hM => ?_)
              · refine wp_skip ?_
                refine then_n ?_
                refine wp_seq ?_
                refine wp_block ?_
                refine wp_seq ?_
                refine wp_region_list ?_
                refine st1 hS (mv rfl) rfl fun a w hS => ?_
                refine s_call hS rfl Tryd.call27 (mortiseref07_state_bits_c hG K (T_mortiseref07_state.mk (T_mortiseref05_Reader.mk s2442.r_.S_ at_2555) s2442.out_ s2442.limit_) (3 : Int) (0 : Int) b2443 f2444 b2446 f2556 A2449 c2450 f2451 hB2445 hB2557 hV2452 (hS.st.part 3 [0, 1, 2, 3, 4, 5, 6, 7] (by kernel_rfl)) (wp_bind hM) (fun x2565 x2566 at_2567 f2568 w hM h2569 hst => s_back hS.ev hst.appF rfl fun hS => ?_))
                replace hS : Ss _ _ _ H [f2444, f2568, f2451, f2454, f2456, f2458, f2559, f2521] F _ _ := hS
                refine st1 hS (mv rfl) rfl fun a w hS => ?_
                refine st1 hS (ex rfl rfl) rfl fun a w hS => ?_
                refine st1 hS (ex rfl rfl) rfl fun a w hS => ?_
                refine st1 hS (asg rfl) rfl fun a w hS => ?_
                refine st1 hS (asg rfl) rfl fun a w hS => ?_
                refine wpList_nil ?_
                refine then_n ?_
                refine wp_seq ?_
                refine wp_seq ?_
                refine wp_region_list ?_
                refine st1 hS (mv rfl) rfl fun a w hS => ?_
                refine st1 hS (bin rfl rfl rfl) rfl fun a w hS => ?_
                refine wpList_nil ?_
                refine then_n ?_
                refine s_cond hS rfl hM (fun hb2570 hM => ?_) (fun hb2570 hM => ?_)
                · refine wp_seq ?_
                  refine wp_region_list ?_
                  refine st1 hS (bld ([.slice none 0 0, .slice none 0 0]) [(0, 1), (1, 1)] Tryd.zeroValue71 Tryd.runUnderlying71 (by intro w; simp [Tryd.sizeOf67]) rfl rfl) rfl fun a w hS => ?_
                  refine st1 hS (mv rfl) rfl fun a w hS => ?_
                  refine st1 hS (asg rfl) rfl fun a w hS => ?_
                  refine st1 hS (asg rfl) rfl fun a w hS => ?_
                  refine stB 3 ([.slice none 0 0, .slice none 0 0]) ([.slice none 0 0, .slice none 0 0]) hS rfl rfl hB2455 rfl rfl Tryd.sizeOf71 (by simp [Value.oneCell']) (Nat.le_of_ble_eq_true rfl) rfl fun w f2571 hB2572 hS => ?_
                  obtain ⟨f2573, hV2574, hS⟩ := hS.nilV 3 (ci .i64) 1
                  obtain ⟨f2575, hV2576, hS⟩ := hS.nilV 3 (ci .i64) 1
                  refine st1 hS (asg rfl) rfl fun a w hS => ?_
                  refine wpList_nil ?_
                  refine then_n ?_
                  refine wp_ret ?_
                  refine then_ret (blk_ret (then_ret (then_ret (blk_ret (then_ret ?_)))))
                  exact s_retC (vs := [.int .i64 (0 : Int), .int .i64 (0 : Int), .agg ⟨[.slice none ([] : List Int).length (0), .slice none ([] : List Int).length (0)]⟩, .int .i64 x2566]) hS rfl (by exact ⟨rvT rfl, rvT rfl, rvA 5 ([.slice none ([] : List Int).length (0), .slice none ([] : List Int).length (0)]) rfl hB2572 rfl rfl rfl Tryd.isAgg71 Tryd.sizeOf71, rvT rfl, trivial⟩) (hret (0 : Int) (0 : Int) none (0) ([] : List Int) f2573 none (0) ([] : List Int) f2575 x2566 at_2567 f2568 w hM hV2574 hV2576 h2569 (hS.st.pick [1, 0, 2, 3, 4] (by kernel_rfl)))
                · refine wp_skip ?_
                  refine then_n ?_
                  refine wp_seq ?_
                  refine wp_region_list ?_
                  refine st1 hS (mv rfl) rfl fun a w hS => ?_
                  refine st1 hS (mv rfl) rfl fun a w hS => ?_
                  refine st1 hS (mv rfl) rfl fun a w hS => ?_
                  obtain ⟨hk2577, hM⟩ := wp_chk hM
                  refine st1 hS (ixV rfl rfl Tryd.runUnderlying67 Tryd.sizeOf3 (h2522.rd (i := 7) rfl) (fun _ => rfl) rfl hk2577) rfl fun a w hS => ?_
                  refine st1 hS (ldV0 rfl (h2522.rd (i := 7) rfl) (fun _ => rfl) hk2577 rfl Tryd.isAgg3) rfl fun a w hS => ?_
                  refine st1 hS (mv rfl) rfl fun a w hS => ?_
                  obtain ⟨hk2578, hM⟩ := wp_chk hM
                  refine st1 hS (ixV rfl rfl Tryd.runUnderlying67 Tryd.sizeOf3 (hV2560.rd (i := 6) rfl) (fun _ => rfl) rfl hk2578) rfl fun a w hS => ?_
                  refine stV 6 0 (x2565) hS rfl rfl hV2560 rfl Tryd.sizeOf3 (one_t3 x2565) (fun _ => rfl) hk2578 rfl rfl fun zs2581 w f2579 hz hz2582 hV2580 hS => ?_
                  have hM := lt_to hz hM; clear hz
                  replace hS := hS.re 12 (u := .slice A2504 l_2558.length c2505) (v := .slice A2504 zs2581.length c2505) rfl (by rw [hz2582])
                  replace hS := hS.re 70 (u := .slice A2504 l_2558.length c2505) (v := .slice A2504 zs2581.length c2505) rfl (by rw [hz2582])
                  refine wpList_nil ?_
                  refine then_n ?_
                  refine wp_region_list ?_
                  refine st1 hS (mv rfl) rfl fun a w hS => ?_
                  refine st1 hS (mv rfl) rfl fun a w hS => ?_
                  refine g_op 2 false 78 (b := any2561) (r := (decide (x2565 > (0 : Int)))) hS rfl rfl rfl rfl rfl rfl rfl (fun hb a w hS K hK => ?_) rfl fun a w hS => ?_
                  · refine st1g hS rfl rfl rfl hb (mv rfl) rfl fun a w hS => ?_
                    refine st1g hS rfl rfl rfl hb (bin rfl rfl rfl) rfl fun a w hS => ?_
                    exact wpList_nil (hK _ _ (hS.up 2 rfl rfl))
                  refine st1x (v := Value.bool) hS (asg rfl) rfl fun any2583 a w hz hS => ?_
                  have hM := lt_to hz hM; clear hz
                  refine wpList_nil ?_
                  refine blk_n (then_n ?_)
                  refine wp_region_list ?_
                  refine st1 hS (mv rfl) rfl fun a w hS => ?_
                  refine st1 hS (bin rfl rfl rfl) rfl fun a w hS => ?_
                  refine st1x (v := Value.int .i64) hS (asg rfl) rfl fun i2584 a w hz hS => ?_
                  have hM := lt_to hz hM; clear hz
                  refine wpList_nil ?_
                  refine then_n ?_
                  exact hJ2585 _ _ ⟨at_2567, f2568, zs2581, f2579, any2583, i2584, hS.to [0, 1, 2, 3, 4, 5, 6, 7] (by kernel_rfl) ⟨rfl, rfl, rfl, rfl, rfl, rfl, rfl, rfl, rfl, trivial⟩, h2569, hV2580, hM⟩
              · refine wp_exit ?_
                refine then_ex (then_ex (blk_same (then_n ?_)))
                exact hJ2593 _ _ ⟨at_2555, f2556, l_2558, f2559, any2561, hS.to [0, 1, 2, 3, 4, 5, 6] (by kernel_rfl) ⟨rfl, rfl, rfl, rfl, rfl, trivial⟩, hB2557, hV2560, hM⟩
          · intro a w hI
            obtain ⟨at_2586, f2587, l_2589, f2590, any2592, hS, hB2588, hV2591, hM⟩ := hI
            rw [mortiseref07_state_head.j2] at hM
            refine wp_seq ?_
            refine wp_region_list ?_
            refine st1 hS (mv rfl) rfl fun a w hS => ?_
            refine s_call hS rfl Tryd.call30 (mortiseref07_coded_c hG K l_2589 A2504 c2505 (hV2591.rdF (i := 6) rfl) (hV2591.cap (fun _ => rfl) rfl) (hS.st.part 0 [0, 1, 2, 3, 4, 5, 6] (by kernel_rfl)) (wp_bind hM) (fun A2594 c2595 codes2596 f2597 x2598 w hM h2599 hst => s_back hS.ev hst.appF rfl fun hS => ?_))
            replace hS : Ss _ _ _ H [f2597, f2444, f2587, f2451, f2454, f2456, f2458, f2590] F _ _ := hS
            refine st1 hS (mv rfl) rfl fun a w hS => ?_
            refine st1 hS (ex rfl rfl) rfl fun a w hS => ?_
            refine st1 hS (ex rfl rfl) rfl fun a w hS => ?_
            refine alc ([.slice none 0 0, .slice none 0 0]) hS Tryd.zeroValue71 rfl rfl fun w b2600 f2601 hB2602 hS => ?_
            obtain ⟨f2603, hV2604, hS⟩ := hS.nilV 3 (ci .i64) 1
            obtain ⟨f2605, hV2606, hS⟩ := hS.nilV 3 (ci .i64) 1
            refine stB 2 ([.slice A2504 l_2589.length c2505, .slice A2594 codes2596.length c2595]) ([.slice A2504 l_2589.length c2505, .slice A2594 codes2596.length c2595]) hS rfl rfl hB2602 rfl rfl Tryd.sizeOf71 (by simp [Value.oneCell']) (Nat.le_of_ble_eq_true rfl) rfl fun w f2607 hB2608 hS => ?_
            refine st1 hS (asg rfl) rfl fun a w hS => ?_
            refine wpList_nil ?_
            refine then_n ?_
            refine wp_seq ?_
            refine wp_seq ?_
            refine wp_region_list ?_
            refine st1 hS (mv rfl) rfl fun a w hS => ?_
            refine st1 hS (un rfl rfl) rfl fun a w hS => ?_
            refine st1 hS (mv rfl) rfl fun a w hS => ?_
            refine g_op 2 false 89 (b := (!x2598)) (r := (!any2592)) hS rfl rfl rfl rfl rfl rfl rfl (fun hb a w hS K hK => ?_) rfl fun a w hS => ?_
            · refine st1g hS rfl rfl rfl hb (mv rfl) rfl fun a w hS => ?_
              refine st1g hS rfl rfl rfl hb (un rfl rfl) rfl fun a w hS => ?_
              exact wpList_nil (hK _ _ (hS.up 2 rfl rfl))
            refine wpList_nil ?_
            refine then_n ?_
            refine s_cond hS rfl hM (fun hb2609 hM => ?_) (fun hb2609 hM => ?_)
            · refine wp_seq ?_
              refine wp_region_list ?_
              refine st1 hS (bld ([.slice none 0 0, .slice none 0 0]) [(0, 1), (1, 1)] Tryd.zeroValue71 Tryd.runUnderlying71 (by intro w; simp [Tryd.sizeOf67]) rfl rfl) rfl fun a w hS => ?_
              refine st1 hS (asg rfl) rfl fun a w hS => ?_
              refine st1 hS (asg rfl) rfl fun a w hS => ?_
              refine stB 7 ([.slice none 0 0, .slice none 0 0]) ([.slice none 0 0, .slice none 0 0]) hS rfl rfl hB2455 rfl rfl Tryd.sizeOf71 (by simp [Value.oneCell']) (Nat.le_of_ble_eq_true rfl) rfl fun w f2610 hB2611 hS => ?_
              obtain ⟨f2612, hV2613, hS⟩ := hS.nilV 3 (ci .i64) 1
              obtain ⟨f2614, hV2615, hS⟩ := hS.nilV 3 (ci .i64) 1
              refine st1 hS (asg rfl) rfl fun a w hS => ?_
              refine wpList_nil ?_
              refine then_n ?_
              refine wp_ret ?_
              refine then_ret ?_
              exact s_retC (vs := [.int .i64 (0 : Int), .int .i64 (0 : Int), .agg ⟨[.slice none ([] : List Int).length (0), .slice none ([] : List Int).length (0)]⟩, .int .i64 (3 : Int)]) hS rfl (by exact ⟨rvT rfl, rvT rfl, rvA 9 ([.slice none ([] : List Int).length (0), .slice none ([] : List Int).length (0)]) rfl hB2611 rfl rfl rfl Tryd.isAgg71 Tryd.sizeOf71, rvT rfl, trivial⟩) (hret (0 : Int) (0 : Int) none (0) ([] : List Int) f2612 none (0) ([] : List Int) f2614 (3 : Int) at_2586 f2587 w hM hV2613 hV2615 hB2588 (hS.st.pick [1, 0, 6, 7, 8] (by kernel_rfl)))
            · refine wp_skip ?_
              refine then_n ?_
              refine wp_seq ?_
              refine draw_begin (vals := [some (.int .i64 x2460), some (.int .i64 x2472), some (.agg ⟨[.slice A2504 l_2589.length c2505, .slice A2594 codes2596.length c2595]⟩), some (.int .i64 x2460), some (.int .i64 x2472), none, none]) hS mixed rfl ?_
              intro l w ho hcl hA hst
              refine phase' (vals := [some (.int .i64 x2460), some (.int .i64 x2472), some (.agg ⟨[.slice A2504 l_2589.length c2505, .slice A2594 codes2596.length c2595]⟩), some (.int .i64 x2460), some (.int .i64 x2472), none, none]) 5 [] [0, 1, 2, 3, 4] rfl rfl rfl rfl (by exact ⟨nR rfl rfl rfl rfl rfl (by exact ovE (mv rfl) rfl), nR rfl rfl rfl rfl rfl (by exact ovE (mv rfl) rfl), nR rfl rfl rfl rfl rfl (by exact ovE (ldbA 2 rfl hB2608 rfl ([.slice A2504 l_2589.length c2505, .slice A2594 codes2596.length c2595]) rfl rfl Tryd.isAgg71 Tryd.sizeOf71) rfl), nR rfl rfl rfl rfl rfl (by exact ovE (asg rfl) rfl), nR rfl rfl rfl rfl rfl (by exact ovE (asg rfl) rfl), trivial⟩) (fun D l a w ho hcl hav hpre hm hE hk hA hst => ?_) ho hcl (fun j hj => (List.not_mem_nil hj).elim) (fun m hm => (List.not_mem_nil hm).elim) List.not_mem_nil hA hst
              have hS := (Ss.mk hE hst).env2 (e' := [(4, ptr b2453 0), (96, .agg ⟨[.slice A2504 l_2589.length c2505, .slice A2594 codes2596.length c2595]⟩)]) ⟨rfl, rfl, trivial⟩
              refine op_of_nth rfl ?_
              refine stB 7 ([.slice A2504 l_2589.length c2505, .slice A2594 codes2596.length c2595]) ([.slice A2504 l_2589.length c2505, .slice A2594 codes2596.length c2595]) hS rfl rfl hB2455 rfl rfl Tryd.sizeOf71 (by simp [Value.oneCell']) (Nat.le_of_ble_eq_true rfl) rfl fun w f2616 hB2617 hS => ?_
              refine wpList_nil (then_n ?_)
              have hcl2 := hcl.cons (k := 5) (nth_get rfl) hpre
              have hmust := must_cons (k := 5) hm (chain (k := 5) hcl (nth_get rfl) hpre [(0, 5), (1, 5), (2, 5), (3, 5), (4, 5)] [] rfl (fun _ h => absurd h List.not_mem_nil))
              replace hst := hS.st
              have hav2 := hav.cons (vals' := [some (.int .i64 x2460), some (.int .i64 x2472), some (.agg ⟨[.slice A2504 l_2589.length c2505, .slice A2594 codes2596.length c2595]⟩), some (.int .i64 x2460), some (.int .i64 x2472), some undef, some (.int .i64 (0 : Int))]) (k := 5) ⟨rfl, rfl, rfl, rfl, rfl, trivial⟩ rfl
              replace hA := (hA.next hav (subV.get (l' := [some (.int .i64 x2460), some (.int .i64 x2472), some (.agg ⟨[.slice A2504 l_2589.length c2505, .slice A2594 codes2596.length c2595]⟩), some (.int .i64 x2460), some (.int .i64 x2472), some undef, some (.int .i64 (0 : Int))]) ⟨rfl, rfl, rfl, rfl, rfl, trivial⟩)).stepN (i := 5) (nth_get rfl) rfl
              clear hm hav
              replace hcl := hcl2
              refine phaseE (vals := [some (.int .i64 x2460), some (.int .i64 x2472), some (.agg ⟨[.slice A2504 l_2589.length c2505, .slice A2594 codes2596.length c2595]⟩), some (.int .i64 x2460), some (.int .i64 x2472), some undef, some (.int .i64 (0 : Int))]) [5, 0, 1, 2, 3, 4] [6] rfl rfl rfl (by exact ⟨nR rfl rfl rfl rfl rfl (by exact ovE (asg rfl) rfl), trivial⟩) (fun a w hS => ?_) ho hcl hmust hA hst
              replace hS := hS.env2 (e' := [(2, .int .i64 x2460), (3, .int .i64 x2472), (4, ptr b2453 0), (5, .int .i64 (0 : Int))]) ⟨rfl, rfl, rfl, rfl, trivial⟩
              refine then_n ?_
              refine wp_ret ?_
              exact s_retC (vs := [.int .i64 x2460, .int .i64 x2472, .agg ⟨[.slice A2504 l_2589.length c2505, .slice A2594 codes2596.length c2595]⟩, .int .i64 (0 : Int)]) hS rfl (by exact ⟨rvT rfl, rvT rfl, rvA 7 ([.slice A2504 l_2589.length c2505, .slice A2594 codes2596.length c2595]) rfl hB2617 rfl rfl rfl Tryd.isAgg71 Tryd.sizeOf71, rvT rfl, trivial⟩) (hret x2460 x2472 A2504 c2505 l_2589 f2590 A2594 c2595 codes2596 f2597 (0 : Int) at_2586 f2587 w hM hV2591 h2599 hB2588 (hS.st.pick [10, 3, 4, 5, 6] (by kernel_rfl)))

theorem mortiseref07_state_row_c {H : Imm} {F : List Frag} {w : World} {R : Ending → World → Prop} {kr : ((List Int) × Int × Int) → Prop} {kp : Value → Prop} (hG : Gl H) (K : Nat) (s2660 : T_mortiseref07_state) (n_2671 : Int) (c_2672 : T_mortiseref07_code) (b2661 : Nat) (f2662 : Frag) (b2664 : Nat) (f2665 : Frag) (A2667 : Option Addr) (c2668 : Nat) (f2669 : Frag) (A2673 : Option Addr) (c2674 : Nat) (A2677 : Option Addr) (c2678 : Nat) (hB2663 : Blk f2662 b2661 ([ptr b2664 0, .slice A2667 s2660.out_.length c2668, .int .i64 s2660.limit_]) 51) (hB2666 : Blk f2665 b2664 ([str s2660.r_.S_, .int .i64 s2660.r_.At_]) 49) (hV2670 : Vec 5 (ci .u8) 1 A2667 s2660.out_ c2668 f2669) (hr2675 : Rdl H [] F (ci .i64) A2673 c_2672.l_) (hc2676 : c_2672.l_.length ≤ c2674) (hr2679 : Rdl H [] F (ci .i64) A2677 c_2672.codes_) (hc2680 : c_2672.codes_.length ≤ c2678)
    (hS : St w H [f2662, f2665, f2669] F) (hm : (mortiseref07_state_row.m K s2660 n_2671 c_2672).wp kr kp)
    (hret : ∀ (A2901 : Option Addr) (c2902 : Nat) (x2903 : (List Int)) (f2904 : Frag) (x2906 : Int) (at_2907 : Int) (f2908 : Frag) (w : World), kr (x2903, x2906, at_2907) → (Vec 3 (ci .i64) 1 A2901 x2903 c2902 f2904) → (Blk f2908 b2664 ([str s2660.r_.S_, .int .i64 at_2907]) 49) → St w H [f2904, f2662, f2908, f2669] F → R (.returned (.tuple ⟨[.slice A2901 x2903.length c2902, .int .i64 x2906]⟩)) w) :
    Calls Tryd.prog 46 ⟨[ptr b2661 0, .int .i64 n_2671, .agg ⟨[.slice A2673 c_2672.l_.length c2674, .slice A2677 c_2672.codes_.length c2678]⟩]⟩ w R := by
  refine enter Tryd.func46 rfl Tryd.ntmps46 rfl hS fun a w hS => ?_
  have hM := hm; clear hm
  rw [mortiseref07_state_row.m] at hM
  refine wp_seq ?_
  refine wp_region_list ?_
  refine bx ([.slice A2673 c_2672.l_.length c2674, .slice A2677 c_2672.codes_.length c2678]) hS rfl rfl rfl fun w b2681 f2682 hB2683 hS => ?_
  refine st1 hS (asg rfl) rfl fun a w hS => ?_
  obtain ⟨f2684, hV2685, hS⟩ := hS.nilV 3 (ci .i64) 1
  refine st1 hS (asg rfl) rfl fun a w hS => ?_
  refine wpList_nil ?_
  refine then_n ?_
  refine wp_seq ?_
  refine wp_region_list ?_
  refine st1 hS (asg rfl) rfl fun a w hS => ?_
  obtain ⟨f2686, hV2687, hS⟩ := hS.nilV 3 (ci .i64) 1
  refine wpList_nil ?_
  refine then_n ?_
  refine wp_seq ?_
  refine wp_block ?_
  refine s_loopJ (fun k2802 a w => ∃ (at_2794 : Int) (f2795 : Frag) (A2797 : Option Addr) (c2798 : Nat) (out2799 : (List Int)) (f2800 : Frag), Ss 87 [] [(0, ptr b2661 0), (1, .int .i64 n_2671), (5, ptr b2681 0), (8, .slice A2797 out2799.length c2798)] H [f2662, f2795, f2669, f2682, f2800] F a w ∧ (Blk f2795 b2664 ([str s2660.r_.S_, .int .i64 at_2794]) 49) ∧ (Vec 3 (ci .i64) 1 A2797 out2799 c2798 f2800) ∧ (mortiseref07_state_row.l1 K s2660 n_2671 c_2672 k2802 at_2794 out2799).wp kr kp) K ?_ ?_ ?_
  · exact ⟨s2660.r_.At_, f2665, none, 0, ([] : List Int), f2686, hS.to [3, 4, 5, 2, 0] (by kernel_rfl) ⟨rfl, rfl, rfl, rfl, trivial⟩, hB2666, hV2687, hM⟩
  · intro a w hI; obtain ⟨_, _, _, _, _, _, _, _, _, hM⟩ := hI; exact hM
  · intro k2802 a w hI J2900 hJ2900
    obtain ⟨at_2794, f2795, A2797, c2798, out2799, f2800, hS, hB2796, hV2801, hM⟩ := hI
    rw [mortiseref07_state_row.l1] at hM
    refine wp_seq ?_
    refine wp_seq ?_
    refine wp_region_list ?_
    refine st1 hS (mv rfl) rfl fun a w hS => ?_
    refine st1 hS (lenV rfl Tryd.runUnderlying67) rfl fun a w hS => ?_
    refine st1 hS (mv rfl) rfl fun a w hS => ?_
    refine st1 hS (bin rfl rfl rfl) rfl fun a w hS => ?_
    refine wpList_nil ?_
    refine then_n ?_
    refine s_cond hS rfl hM (fun hb2803 hM => ?_) (fun hb2803 hM => ?_)
    · refine wp_skip ?_
      refine then_n ?_
      refine wp_block ?_
      refine wp_seq ?_
      refine draw_begin (vals := [some (ptr b2681 0), some (.slice A2673 c_2672.l_.length c2674), some (ptr b2681 1), some (.slice A2677 c_2672.codes_.length c2678), some (ptr b2661 0), some (ptr b2661 0), some (ptr b2661 0), some (ptr b2664 0), none, none, none, none, none, none]) hS mixed rfl ?_
      intro l w ho hcl hA hst
      refine phase' (vals := [some (ptr b2681 0), some (.slice A2673 c_2672.l_.length c2674), some (ptr b2681 1), some (.slice A2677 c_2672.codes_.length c2678), some (ptr b2661 0), some (ptr b2661 0), some (ptr b2661 0), some (ptr b2664 0), none, none, none, none, none, none]) 8 [] [0, 1, 2, 3, 4, 5, 6, 7] rfl rfl rfl rfl (by exact ⟨nR rfl rfl rfl rfl rfl (by exact ovE (fad rfl Tryd.runUnderlying71 rfl Tryd.sizeOf67 rfl) rfl), nR rfl rfl rfl rfl rfl (by exact ovE (ldb 3 rfl hB2683 rfl rfl Tryd.isAgg67) rfl), nR rfl rfl rfl rfl rfl (by exact ovE (fad rfl Tryd.runUnderlying71 rfl Tryd.sizeOf67 rfl) rfl), nR rfl rfl rfl rfl rfl (by exact ovE (ldb 3 rfl hB2683 rfl rfl Tryd.isAgg67) rfl), nR rfl rfl rfl rfl rfl (by exact ovE (mv rfl) rfl), nR rfl rfl rfl rfl rfl (by exact ovE (nck rfl) rfl), nR rfl rfl rfl rfl rfl (by exact ovE (fad rfl Tryd.runUnderlying51 rfl Tryd.sizeOf47 rfl) rfl), nR rfl rfl rfl rfl rfl (by exact ovE (ldb 0 rfl hB2663 rfl rfl Tryd.isAgg47) rfl), trivial⟩) (fun D l a w ho hcl hav hpre hm hE hk hA hst => ?_) ho hcl (fun j hj => (List.not_mem_nil hj).elim) (fun m hm => (List.not_mem_nil hm).elim) List.not_mem_nil hA hst
      have hS := (Ss.mk hE hst).env2 (e' := [(20, .slice A2673 c_2672.l_.length c2674), (22, .slice A2677 c_2672.codes_.length c2678), (26, ptr b2664 0)]) ⟨rfl, rfl, rfl, trivial⟩
      refine op_of_nth rfl ?_
      refine s_call hS rfl Tryd.call43 (mortiseref06_Next_c hG K c_2672.l_ c_2672.codes_ (T_mortiseref05_Reader.mk s2660.r_.S_ at_2794) A2673 c2674 A2677 c2678 b2664 f2795 (hr2675.app _) hc2676 (hr2679.app _) hc2680 hB2796 (hS.st.part 1 [1, 0, 2, 3, 4] (by kernel_rfl)) (wp_bind hM) (fun x2804 x2805 at_2806 f2807 w hM h2808 hst => s_back hS.ev hst.appF rfl fun hS => ?_))
      replace hS : Ss _ _ _ H [f2807, f2662, f2669, f2682, f2800] F _ _ := hS
      refine wpList_nil (then_n ?_)
      have hcl2 := hcl.cons (k := 8) (nth_get rfl) hpre
      have hmust := must_cons (k := 8) hm (chain (k := 8) hcl (nth_get rfl) hpre [(1, 8), (3, 8), (7, 8), (0, 1), (2, 3), (6, 7), (5, 6), (4, 5)] [] rfl (fun _ h => absurd h List.not_mem_nil))
      replace hst := hS.st
      have hav2 := hav.cons (vals' := [some (ptr b2681 0), some (.slice A2673 c_2672.l_.length c2674), some (ptr b2681 1), some (.slice A2677 c_2672.codes_.length c2678), some (ptr b2661 0), some (ptr b2661 0), some (ptr b2661 0), some (ptr b2664 0), some (.tuple ⟨[.int .i64 x2804, .int .i64 x2805]⟩), some (.tuple ⟨[.int .i64 x2804, .int .i64 x2805]⟩), some (.int .i64 x2804), some (.int .i64 x2805), some (.int .i64 x2804), some (.int .i64 x2805)]) (k := 8) ⟨rfl, rfl, rfl, rfl, rfl, rfl, rfl, rfl, trivial⟩ rfl
      replace hA := (hA.next hav (subV.get (l' := [some (ptr b2681 0), some (.slice A2673 c_2672.l_.length c2674), some (ptr b2681 1), some (.slice A2677 c_2672.codes_.length c2678), some (ptr b2661 0), some (ptr b2661 0), some (ptr b2661 0), some (ptr b2664 0), some (.tuple ⟨[.int .i64 x2804, .int .i64 x2805]⟩), some (.tuple ⟨[.int .i64 x2804, .int .i64 x2805]⟩), some (.int .i64 x2804), some (.int .i64 x2805), some (.int .i64 x2804), some (.int .i64 x2805)]) ⟨rfl, rfl, rfl, rfl, rfl, rfl, rfl, rfl, trivial⟩)).step rfl (nth_get rfl) hk rfl rfl rfl
      clear hm hav
      replace hcl := hcl2
      refine phaseE (vals := [some (ptr b2681 0), some (.slice A2673 c_2672.l_.length c2674), some (ptr b2681 1), some (.slice A2677 c_2672.codes_.length c2678), some (ptr b2661 0), some (ptr b2661 0), some (ptr b2661 0), some (ptr b2664 0), some (.tuple ⟨[.int .i64 x2804, .int .i64 x2805]⟩), some (.tuple ⟨[.int .i64 x2804, .int .i64 x2805]⟩), some (.int .i64 x2804), some (.int .i64 x2805), some (.int .i64 x2804), some (.int .i64 x2805)]) [8, 1, 3, 7, 0, 2, 6, 5, 4] [9, 10, 11, 12, 13] rfl rfl rfl (by exact ⟨nR rfl rfl rfl rfl rfl (by exact ovE (mv rfl) rfl), nR rfl rfl rfl rfl rfl (by exact ovE (ex rfl rfl) rfl), nR rfl rfl rfl rfl rfl (by exact ovE (ex rfl rfl) rfl), nR rfl rfl rfl rfl rfl (by exact ovE (asg rfl) rfl), nR rfl rfl rfl rfl rfl (by exact ovE (asg rfl) rfl), trivial⟩) (fun a w hS => ?_) ho hcl hmust hA hst
      replace hS := hS.env2 (e' := [(0, ptr b2661 0), (1, .int .i64 n_2671), (5, ptr b2681 0), (8, .slice A2797 out2799.length c2798), (9, .int .i64 x2804), (10, .int .i64 x2805)]) ⟨rfl, rfl, rfl, rfl, rfl, rfl, trivial⟩
      refine then_n ?_
      refine wp_seq ?_
      refine wp_seq ?_
      refine wp_region_list ?_
      refine st1 hS (mv rfl) rfl fun a w hS => ?_
      refine st1 hS (bin rfl rfl rfl) rfl fun a w hS => ?_
      refine wpList_nil ?_
      refine then_n ?_
      refine s_cond hS rfl hM (fun hb2809 hM => ?_) (fun hb2809 hM => ?_)
      · refine wp_seq ?_
        refine wp_region_list ?_
        refine st1 hS (mv rfl) rfl fun a w hS => ?_
        refine st1 hS (asg rfl) rfl fun a w hS => ?_
        obtain ⟨f2810, hV2811, hS⟩ := hS.nilV 3 (ci .i64) 1
        refine st1 hS (asg rfl) rfl fun a w hS => ?_
        refine wpList_nil ?_
        refine then_n ?_
        refine wp_ret ?_
        refine then_ret (blk_ret (then_ret (blk_ret (then_ret ?_))))
        exact s_ret (rs := [6, 7]) hS rfl rfl (hret none (0) ([] : List Int) f2810 x2805 at_2806 f2807 w hM hV2811 h2808 (hS.st.pick [0, 2, 1, 3] (by kernel_rfl)))
      · refine wp_skip ?_
        refine then_n ?_
        refine wp_seq ?_
        refine wp_seq ?_
        refine wp_region_list ?_
        refine st1 hS (mv rfl) rfl fun a w hS => ?_
        refine st1 hS (bin rfl rfl rfl) rfl fun a w hS => ?_
        refine wpList_nil ?_
        refine then_n ?_
        refine s_cond hS rfl hM (fun hb2812 hM => ?_) (fun hb2812 hM => ?_)
        · refine wp_seq ?_
          refine wp_region_list ?_
          refine st1 hS (mv rfl) rfl fun a w hS => ?_
          refine st1 hS (mv rfl) rfl fun a w hS => ?_
          refine bsl (g := (ci .i64)) ([x2804] : List Int) [.int .i64 x2804] hS Tryd.runUnderlying67 Tryd.sizeOf3 X.el3 rfl rfl rfl (by simp [Value.cells]) rfl rfl rfl rfl rfl fun w A2813 c2814 f2815 hV2816 hS => ?_
          obtain ⟨hk2817, hM⟩ := wp_chk hM
          refine apV (ys := ([x2804] : List Int)) 5 hS rfl rfl hV2801 rfl (hV2816.rd (i := 0) rfl) Tryd.runUnderlying67 Tryd.runUnderlying67 X.el3 (fun _ => rfl) rfl one_t3 hk2817 rfl fun zs2822 w A2818 c2819 f2820 hz hV2821 hS => ?_
          have hM := lt_to hz hM; clear hz
          refine st1 hS (asg rfl) rfl fun a w hS => ?_
          refine wpList_nil ?_
          refine then_n ?_
          refine wp_exit ?_
          refine then_ex (blk_same (then_n ?_))
          exact hJ2900 _ _ ⟨at_2806, f2807, A2818, c2819, zs2822, f2820, hS.to [2, 1, 3, 4, 5] (by kernel_rfl) ⟨rfl, rfl, rfl, rfl, trivial⟩, h2808, hV2821, hM⟩
        · refine wp_skip ?_
          refine then_n ?_
          refine wp_seq ?_
          refine wp_region_list ?_
          refine st1 hS (asg rfl) rfl fun a w hS => ?_
          refine wpList_nil ?_
          refine then_n ?_
          refine wp_seq ?_
          refine wp_region_list ?_
          refine st1 hS (asg rfl) rfl fun a w hS => ?_
          refine wpList_nil ?_
          refine then_n ?_
          refine seq_joinJ (fun a w => ∃ (at_2847 : Int) (f2848 : Frag) (e_2850 : Int) (value2851 : Int) (times2852 : Int), Ss 87 [] [(0, ptr b2661 0), (1, .int .i64 n_2671), (5, ptr b2681 0), (8, .slice A2797 out2799.length c2798), (10, .int .i64 e_2850), (11, .int .i64 value2851), (12, .int .i64 times2852)] H [f2662, f2848, f2669, f2682, f2800] F a w ∧ (Blk f2848 b2664 ([str s2660.r_.S_, .int .i64 at_2847]) 49) ∧ (mortiseref07_state_row.j2 K (mortiseref07_state_row.l1 K s2660 n_2671 c_2672 k2802) n_2671 out2799 at_2847 e_2850 value2851 times2852).wp kr kp) (fun J2853 hJ2853 => ?_) ?_
          · refine wp_seq ?_
            refine wp_region_list ?_
            refine st1 hS (mv rfl) rfl fun a w hS => ?_
            refine wpList_nil ?_
            refine then_n ?_
            refine wp_block ?_
            refine wp_seq ?_
            refine wp_region_list ?_
            refine st1 hS (bin rfl rfl rfl) rfl fun a w hS => ?_
            refine st1x (v := Value.bool) hS (asg rfl) rfl fun v2823 a w hz hS => ?_
            have hM := lt_to hz hM; clear hz
            refine wpList_nil ?_
            refine then_n ?_
            refine s_cond hS rfl hM (fun hb2824 hM => ?_) (fun hb2824 hM => ?_)
            · refine wp_seq ?_
              refine wp_seq ?_
              refine wp_region_list ?_
              refine st1 hS (mv rfl) rfl fun a w hS => ?_
              refine st1 hS (lenV rfl Tryd.runUnderlying67) rfl fun a w hS => ?_
              refine st1 hS (bin rfl rfl rfl) rfl fun a w hS => ?_
              refine wpList_nil ?_
              refine then_n ?_
              refine s_cond hS rfl hM (fun hb2825 hM => ?_) (fun hb2825 hM => ?_)
              · refine wp_seq ?_
                refine wp_region_list ?_
                refine st1 hS (asg rfl) rfl fun a w hS => ?_
                obtain ⟨f2826, hV2827, hS⟩ := hS.nilV 3 (ci .i64) 1
                refine st1 hS (asg rfl) rfl fun a w hS => ?_
                refine wpList_nil ?_
                refine then_n ?_
                refine wp_ret ?_
                refine then_ret (blk_ret (then_ret (blk_ret (then_ret (blk_ret (then_ret ?_))))))
                exact s_ret (rs := [6, 7]) hS rfl rfl (hret none (0) ([] : List Int) f2826 (3 : Int) at_2806 f2807 w hM hV2827 h2808 (hS.st.pick [0, 2, 1, 3] (by kernel_rfl)))
              · refine wp_skip ?_
                refine then_n ?_
                refine wp_seq ?_
                refine wp_region_list ?_
                refine st1 hS (mv rfl) rfl fun a w hS => ?_
                refine st1 hS (mv rfl) rfl fun a w hS => ?_
                refine st1 hS (lenV rfl Tryd.runUnderlying67) rfl fun a w hS => ?_
                refine st1 hS (bin rfl rfl rfl) rfl fun a w hS => ?_
                obtain ⟨hk2828, hM⟩ := wp_chk hM
                refine st1 hS (ixV rfl rfl Tryd.runUnderlying67 Tryd.sizeOf3 (hV2801.rd (i := 4) rfl) (fun _ => rfl) rfl hk2828) rfl fun a w hS => ?_
                refine st1 hS (ldV0 rfl (hV2801.rd (i := 4) rfl) (fun _ => rfl) hk2828 rfl Tryd.isAgg3) rfl fun a w hS => ?_
                refine st1x (v := Value.int .i64) hS (asg rfl) rfl fun value2829 a w hz hS => ?_
                have hM := lt_to hz hM; clear hz
                refine wpList_nil ?_
                refine then_n ?_
                refine wp_region_list ?_
                refine st1 hS (mv rfl) rfl fun a w hS => ?_
                refine s_call hS rfl Tryd.call27 (mortiseref07_state_bits_c hG K (T_mortiseref07_state.mk (T_mortiseref05_Reader.mk s2660.r_.S_ at_2806) s2660.out_ s2660.limit_) (2 : Int) (3 : Int) b2661 f2662 b2664 f2807 A2667 c2668 f2669 hB2663 h2808 hV2670 (hS.st.part 3 [1, 0, 2, 3, 4] (by kernel_rfl)) (wp_bind hM) (fun x2830 x2831 at_2832 f2833 w hM h2834 hst => s_back hS.ev hst.appF rfl fun hS => ?_))
                replace hS : Ss _ _ _ H [f2662, f2833, f2669, f2682, f2800] F _ _ := hS
                refine st1 hS (mv rfl) rfl fun a w hS => ?_
                refine st1 hS (ex rfl rfl) rfl fun a w hS => ?_
                refine st1 hS (ex rfl rfl) rfl fun a w hS => ?_
                refine st1 hS (asg rfl) rfl fun a w hS => ?_
                refine st1 hS (asg rfl) rfl fun a w hS => ?_
                refine wpList_nil ?_
                refine blk_n (then_n ?_)
                exact hJ2853 _ _ ⟨at_2832, f2833, x2831, value2829, x2830, hS.to [0, 1, 2, 3, 4] (by kernel_rfl) ⟨rfl, rfl, rfl, rfl, rfl, rfl, rfl, trivial⟩, h2834, hM⟩
            · refine wp_seq ?_
              refine wp_region_list ?_
              refine st1 hS (bin rfl rfl rfl) rfl fun a w hS => ?_
              refine st1x (v := Value.bool) hS (asg rfl) rfl fun v2835 a w hz hS => ?_
              have hM := lt_to hz hM; clear hz
              refine wpList_nil ?_
              refine then_n ?_
              refine s_cond hS rfl hM (fun hb2836 hM => ?_) (fun hb2836 hM => ?_)
              · refine wp_region_list ?_
                refine st1 hS (mv rfl) rfl fun a w hS => ?_
                refine s_call hS rfl Tryd.call27 (mortiseref07_state_bits_c hG K (T_mortiseref07_state.mk (T_mortiseref05_Reader.mk s2660.r_.S_ at_2806) s2660.out_ s2660.limit_) (3 : Int) (3 : Int) b2661 f2662 b2664 f2807 A2667 c2668 f2669 hB2663 h2808 hV2670 (hS.st.part 3 [1, 0, 2, 3, 4] (by kernel_rfl)) (wp_bind hM) (fun x2837 x2838 at_2839 f2840 w hM h2841 hst => s_back hS.ev hst.appF rfl fun hS => ?_))
                replace hS : Ss _ _ _ H [f2662, f2840, f2669, f2682, f2800] F _ _ := hS
                refine st1 hS (mv rfl) rfl fun a w hS => ?_
                refine st1 hS (ex rfl rfl) rfl fun a w hS => ?_
                refine st1 hS (ex rfl rfl) rfl fun a w hS => ?_
                refine st1 hS (asg rfl) rfl fun a w hS => ?_
                refine st1 hS (asg rfl) rfl fun a w hS => ?_
                refine wpList_nil ?_
                refine blk_n (then_n ?_)
                exact hJ2853 _ _ ⟨at_2839, f2840, x2838, (0 : Int), x2837, hS.to [0, 1, 2, 3, 4] (by kernel_rfl) ⟨rfl, rfl, rfl, rfl, rfl, rfl, rfl, trivial⟩, h2841, hM⟩
              · refine wp_region_list ?_
                refine st1 hS (mv rfl) rfl fun a w hS => ?_
                refine s_call hS rfl Tryd.call27 (mortiseref07_state_bits_c hG K (T_mortiseref07_state.mk (T_mortiseref05_Reader.mk s2660.r_.S_ at_2806) s2660.out_ s2660.limit_) (7 : Int) (11 : Int) b2661 f2662 b2664 f2807 A2667 c2668 f2669 hB2663 h2808 hV2670 (hS.st.part 3 [1, 0, 2, 3, 4] (by kernel_rfl)) (wp_bind hM) (fun x2842 x2843 at_2844 f2845 w hM h2846 hst => s_back hS.ev hst.appF rfl fun hS => ?_))
                replace hS : Ss _ _ _ H [f2662, f2845, f2669, f2682, f2800] F _ _ := hS
                refine st1 hS (mv rfl) rfl fun a w hS => ?_
                refine st1 hS (ex rfl rfl) rfl fun a w hS => ?_
                refine st1 hS (ex rfl rfl) rfl fun a w hS => ?_
                refine st1 hS (asg rfl) rfl fun a w hS => ?_
                refine st1 hS (asg rfl) rfl fun a w hS => ?_
                refine wpList_nil ?_
                refine blk_n (then_n ?_)
                exact hJ2853 _ _ ⟨at_2844, f2845, x2843, (0 : Int), x2842, hS.to [0, 1, 2, 3, 4] (by kernel_rfl) ⟨rfl, rfl, rfl, rfl, rfl, rfl, rfl, trivial⟩, h2846, hM⟩
          · intro a w hI
            obtain ⟨at_2847, f2848, e_2850, value2851, times2852, hS, hB2849, hM⟩ := hI
            rw [mortiseref07_state_row.j2] at hM
            refine wp_seq ?_
            refine wp_seq ?_
            refine wp_region_list ?_
            refine st1 hS (mv rfl) rfl fun a w hS => ?_
            refine st1 hS (bin rfl rfl rfl) rfl fun a w hS => ?_
            refine wpList_nil ?_
            refine then_n ?_
            refine s_cond hS rfl hM (fun hb2854 hM => ?_) (fun hb2854 hM => ?_)
            · refine wp_seq ?_
              refine wp_region_list ?_
              refine st1 hS (mv rfl) rfl fun a w hS => ?_
              refine st1 hS (asg rfl) rfl fun a w hS => ?_
              obtain ⟨f2855, hV2856, hS⟩ := hS.nilV 3 (ci .i64) 1
              refine st1 hS (asg rfl) rfl fun a w hS => ?_
              refine wpList_nil ?_
              refine then_n ?_
              refine wp_ret ?_
              refine then_ret (blk_ret (then_ret (blk_ret (then_ret ?_))))
              exact s_ret (rs := [6, 7]) hS rfl rfl (hret none (0) ([] : List Int) f2855 e_2850 at_2847 f2848 w hM hV2856 hB2849 (hS.st.pick [0, 1, 2, 3] (by kernel_rfl)))
            · refine wp_skip ?_
              refine then_n ?_
              refine wp_seq ?_
              refine wp_seq ?_
              refine wp_region_list ?_
              refine st1 hS (mv rfl) rfl fun a w hS => ?_
              refine st1 hS (mv rfl) rfl fun a w hS => ?_
              refine st1 hS (mv rfl) rfl fun a w hS => ?_
              refine st1 hS (lenV rfl Tryd.runUnderlying67) rfl fun a w hS => ?_
              refine st1 hS (bin rfl rfl rfl) rfl fun a w hS => ?_
              refine st1 hS (bin rfl rfl rfl) rfl fun a w hS => ?_
              refine wpList_nil ?_
              refine then_n ?_
              refine s_cond hS rfl hM (fun hb2857 hM => ?_) (fun hb2857 hM => ?_)
              · refine wp_seq ?_
                refine wp_region_list ?_
                refine st1 hS (asg rfl) rfl fun a w hS => ?_
                obtain ⟨f2858, hV2859, hS⟩ := hS.nilV 3 (ci .i64) 1
                refine st1 hS (asg rfl) rfl fun a w hS => ?_
                refine wpList_nil ?_
                refine then_n ?_
                refine wp_ret ?_
                refine then_ret (blk_ret (then_ret (blk_ret (then_ret ?_))))
                exact s_ret (rs := [6, 7]) hS rfl rfl (hret none (0) ([] : List Int) f2858 (3 : Int) at_2847 f2848 w hM hV2859 hB2849 (hS.st.pick [0, 1, 2, 3] (by kernel_rfl)))
              · refine wp_skip ?_
                refine then_n ?_
                refine wp_seq ?_
                refine wp_region_list ?_
                refine st1 hS (asg rfl) rfl fun a w hS => ?_
                refine wpList_nil ?_
                refine then_n ?_
                refine wp_block ?_
                refine s_loopJ (fun k2886 a w => ∃ (A2880 : Option Addr) (c2881 : Nat) (out2882 : (List Int)) (f2883 : Frag) (i2885 : Int), Ss 87 [] [(0, ptr b2661 0), (1, .int .i64 n_2671), (5, ptr b2681 0), (8, .slice A2880 out2882.length c2881), (11, .int .i64 value2851), (12, .int .i64 times2852), (13, .int .i64 i2885)] H [f2662, f2848, f2669, f2682, f2883] F a w ∧ (Vec 3 (ci .i64) 1 A2880 out2882 c2881 f2883) ∧ (mortiseref07_state_row.l3 K (mortiseref07_state_row.l1 K s2660 n_2671 c_2672 k2802) at_2847 value2851 times2852 k2886 out2882 i2885).wp kr kp) K ?_ ?_ ?_
                · exact ⟨A2797, c2798, out2799, f2800, (0 : Int), hS.to [0, 1, 2, 3, 4] (by kernel_rfl) ⟨rfl, rfl, rfl, rfl, rfl, rfl, rfl, trivial⟩, hV2801, hM⟩
                · intro a w hI; obtain ⟨_, _, _, _, _, _, _, hM⟩ := hI; exact hM
                · intro k2886 a w hI J2899 hJ2899
                  obtain ⟨A2880, c2881, out2882, f2883, i2885, hS, hV2884, hM⟩ := hI
                  rw [mortiseref07_state_row.l3] at hM
                  refine wp_seq ?_
                  refine wp_seq ?_
                  refine wp_region_list ?_
                  refine st1 hS (mv rfl) rfl fun a w hS => ?_
                  refine st1 hS (mv rfl) rfl fun a w hS => ?_
                  refine st1 hS (bin rfl rfl rfl) rfl fun a w hS => ?_
                  refine wpList_nil ?_
                  refine then_n ?_
                  refine s_cond hS rfl hM (fun hb2887 hM => ?_) (fun hb2887 hM => ?_)
                  · refine wp_skip ?_
                    refine then_n ?_
                    refine wp_seq ?_
                    refine wp_block ?_
                    refine wp_region_list ?_
                    refine st1 hS (mv rfl) rfl fun a w hS => ?_
                    refine st1 hS (mv rfl) rfl fun a w hS => ?_
                    refine bsl (g := (ci .i64)) ([value2851] : List Int) [.int .i64 value2851] hS Tryd.runUnderlying67 Tryd.sizeOf3 X.el3 rfl rfl rfl (by simp [Value.cells]) rfl rfl rfl rfl rfl fun w A2888 c2889 f2890 hV2891 hS => ?_
                    obtain ⟨hk2892, hM⟩ := wp_chk hM
                    refine apV (ys := ([value2851] : List Int)) 5 hS rfl rfl hV2884 rfl (hV2891.rd (i := 0) rfl) Tryd.runUnderlying67 Tryd.runUnderlying67 X.el3 (fun _ => rfl) rfl one_t3 hk2892 rfl fun zs2897 w A2893 c2894 f2895 hz hV2896 hS => ?_
                    have hM := lt_to hz hM; clear hz
                    refine st1 hS (asg rfl) rfl fun a w hS => ?_
                    refine wpList_nil ?_
                    refine blk_n (then_n ?_)
                    refine wp_region_list ?_
                    refine st1 hS (mv rfl) rfl fun a w hS => ?_
                    refine st1 hS (bin rfl rfl rfl) rfl fun a w hS => ?_
                    refine st1x (v := Value.int .i64) hS (asg rfl) rfl fun i2898 a w hz hS => ?_
                    have hM := lt_to hz hM; clear hz
                    refine wpList_nil ?_
                    refine then_n ?_
                    exact hJ2899 _ _ ⟨A2893, c2894, zs2897, f2895, i2898, hS.to [1, 2, 3, 4, 5] (by kernel_rfl) ⟨rfl, rfl, rfl, rfl, rfl, rfl, rfl, trivial⟩, hV2896, hM⟩
                  · refine wp_exit ?_
                    refine then_ex (then_ex (blk_same (blk_n (then_n ?_))))
                    exact hJ2900 _ _ ⟨at_2847, f2848, A2880, c2881, out2882, f2883, hS.to [0, 1, 2, 3, 4] (by kernel_rfl) ⟨rfl, rfl, rfl, rfl, trivial⟩, hB2849, hV2884, hM⟩
    · refine wp_exit ?_
      refine then_ex (then_ex (blk_same (then_n ?_)))
      refine wp_seq ?_
      refine wp_region_list ?_
      refine st1 hS (mv rfl) rfl fun a w hS => ?_
      refine st1 hS (asg rfl) rfl fun a w hS => ?_
      refine st1 hS (asg rfl) rfl fun a w hS => ?_
      refine wpList_nil ?_
      refine then_n ?_
      refine wp_ret ?_
      exact s_ret (rs := [6, 7]) hS rfl rfl (hret A2797 c2798 out2799 f2800 (0 : Int) at_2794 f2795 w hM hV2801 hB2796 (hS.st.pick [4, 0, 1, 2] (by kernel_rfl)))

theorem mortiseref07_state_dynamic_c {H : Imm} {F : List Frag} {w : World} {R : Ending → World → Prop} {kr : (Int × Int × (List Int)) → Prop} {kp : Value → Prop} (hG : Gl H) (K : Nat) (s2431 : T_mortiseref07_state) (b2432 : Nat) (f2433 : Frag) (b2435 : Nat) (f2436 : Frag) (A2438 : Option Addr) (c2439 : Nat) (f2440 : Frag) (hB2434 : Blk f2433 b2432 ([ptr b2435 0, .slice A2438 s2431.out_.length c2439, .int .i64 s2431.limit_]) 51) (hB2437 : Blk f2436 b2435 ([str s2431.r_.S_, .int .i64 s2431.r_.At_]) 49) (hV2441 : Vec 5 (ci .u8) 1 A2438 s2431.out_ c2439 f2440)
    (hS : St w H [f2433, f2436, f2440] F) (hm : (mortiseref07_state_dynamic.m K s2431).wp kr kp)
    (hret : ∀ (x2977 : Int) (at_2978 : Int) (f2979 : Frag) (A2981 : Option Addr) (c2982 : Nat) (out2983 : (List Int)) (f2984 : Frag) (f2986 : Frag) (w : World), kr (x2977, at_2978, out2983) → (Blk f2979 b2435 ([str s2431.r_.S_, .int .i64 at_2978]) 49) → (Vec 5 (ci .u8) 1 A2981 out2983 c2982 f2984) → (Blk f2986 b2432 ([ptr b2435 0, .slice A2981 out2983.length c2982, .int .i64 s2431.limit_]) 51) → St w H [f2986, f2979, f2984] F → R (.returned (.int .i64 x2977)) w) :
    Calls Tryd.prog 32 ⟨[ptr b2432 0]⟩ w R := by
  refine enter Tryd.func32 rfl Tryd.ntmps32 rfl hS fun a w hS => ?_
  have hM := hm; clear hm
  rw [mortiseref07_state_dynamic.m] at hM
  refine wp_seq ?_
  refine wp_region_list ?_
  refine st1 hS (asg rfl) rfl fun a w hS => ?_
  refine wpList_nil ?_
  refine then_n ?_
  refine wp_seq ?_
  refine wp_region_list ?_
  refine st1 hS (mv rfl) rfl fun a w hS => ?_
  refine s_call hS rfl Tryd.call45 (mortiseref07_state_head_c hG K s2431 b2432 f2433 b2435 f2436 A2438 c2439 f2440 hB2434 hB2437 hV2441 (hS.st.part 3 [0, 1, 2] (by kernel_rfl)) (wp_bind hM) (fun x2634 x2635 A2636 c2637 l_2638 f2639 A2640 c2641 codes2642 f2643 x2644 at_2645 f2646 w hM h2647 h2648 h2649 hst => s_back hS.ev hst.appF rfl fun hS => ?_))
  replace hS : Ss _ _ _ H [f2639, f2643, f2433, f2646, f2440] F _ _ := hS
  refine st1 hS (mv rfl) rfl fun a w hS => ?_
  refine st1 hS (ex rfl rfl) rfl fun a w hS => ?_
  refine st1 hS (ex rfl rfl) rfl fun a w hS => ?_
  refine st1 hS (ex rfl rfl) rfl fun a w hS => ?_
  refine st1 hS (ex rfl rfl) rfl fun a w hS => ?_
  refine alc ([.slice none 0 0, .slice none 0 0]) hS Tryd.zeroValue71 rfl rfl fun w b2650 f2651 hB2652 hS => ?_
  obtain ⟨f2653, hV2654, hS⟩ := hS.nilV 3 (ci .i64) 1
  obtain ⟨f2655, hV2656, hS⟩ := hS.nilV 3 (ci .i64) 1
  refine st1 hS (asg rfl) rfl fun a w hS => ?_
  refine st1 hS (asg rfl) rfl fun a w hS => ?_
  refine stB 2 ([.slice A2636 l_2638.length c2637, .slice A2640 codes2642.length c2641]) ([.slice A2636 l_2638.length c2637, .slice A2640 codes2642.length c2641]) hS rfl rfl hB2652 rfl rfl Tryd.sizeOf71 (by simp [Value.oneCell']) (Nat.le_of_ble_eq_true rfl) rfl fun w f2657 hB2658 hS => ?_
  refine st1 hS (asg rfl) rfl fun a w hS => ?_
  refine wpList_nil ?_
  refine then_n ?_
  refine wp_seq ?_
  refine wp_seq ?_
  refine wp_region_list ?_
  refine st1 hS (mv rfl) rfl fun a w hS => ?_
  refine st1 hS (bin rfl rfl rfl) rfl fun a w hS => ?_
  refine wpList_nil ?_
  refine then_n ?_
  refine s_cond hS rfl hM (fun hb2659 hM => ?_) (fun hb2659 hM => ?_)
  · refine wp_seq ?_
    refine wp_region_list ?_
    refine st1 hS (mv rfl) rfl fun a w hS => ?_
    refine st1 hS (asg rfl) rfl fun a w hS => ?_
    refine wpList_nil ?_
    refine then_n ?_
    refine wp_ret ?_
    refine then_ret ?_
    exact s_ret (rs := [2]) hS rfl rfl (hret x2644 at_2645 f2646 A2438 c2439 s2431.out_ f2440 f2433 w hM h2649 hV2441 hB2434 (hS.st.pick [5, 6, 7] (by kernel_rfl)))
  · refine wp_skip ?_
    refine then_n ?_
    refine wp_seq ?_
    refine wp_region_list ?_
    refine st1 hS (mv rfl) rfl fun a w hS => ?_
    refine st1 hS (mv rfl) rfl fun a w hS => ?_
    refine st1 hS (mv rfl) rfl fun a w hS => ?_
    refine st1 hS (bin rfl rfl rfl) rfl fun a w hS => ?_
    refine st1 hS (ldbA 2 rfl hB2658 rfl ([.slice A2636 l_2638.length c2637, .slice A2640 codes2642.length c2641]) rfl rfl Tryd.isAgg71 Tryd.sizeOf71) rfl fun a w hS => ?_
    refine s_call hS rfl Tryd.call46 (mortiseref07_state_row_c hG K (T_mortiseref07_state.mk (T_mortiseref05_Reader.mk s2431.r_.S_ at_2645) s2431.out_ s2431.limit_) (w64 (x2634 + x2635)) (T_mortiseref07_code.mk l_2638 codes2642) b2432 f2433 b2435 f2646 A2438 c2439 f2440 A2636 c2637 A2640 c2641 hB2434 h2649 hV2441 (h2647.rdF (i := 3) rfl) (h2647.cap (fun _ => rfl) rfl) (h2648.rdF (i := 4) rfl) (h2648.cap (fun _ => rfl) rfl) (hS.st.part 3 [5, 6, 7, 0, 1, 2, 3, 4] (by kernel_rfl)) (wp_bind hM) (fun A2910 c2911 x2912 f2913 x2914 at_2915 f2916 w hM h2917 h2918 hst => s_back hS.ev hst.appF rfl fun hS => ?_))
    replace hS : Ss _ _ _ H [f2913, f2433, f2916, f2440, f2655, f2653, f2657, f2639, f2643] F _ _ := hS
    refine st1 hS (mv rfl) rfl fun a w hS => ?_
    refine st1 hS (ex rfl rfl) rfl fun a w hS => ?_
    refine st1 hS (ex rfl rfl) rfl fun a w hS => ?_
    refine st1 hS (asg rfl) rfl fun a w hS => ?_
    refine st1 hS (asg rfl) rfl fun a w hS => ?_
    refine wpList_nil ?_
    refine then_n ?_
    refine wp_seq ?_
    refine wp_seq ?_
    refine wp_region_list ?_
    refine st1 hS (mv rfl) rfl fun a w hS => ?_
    refine st1 hS (bin rfl rfl rfl) rfl fun a w hS => ?_
    refine wpList_nil ?_
    refine then_n ?_
    refine s_cond hS rfl hM (fun hb2919 hM => ?_) (fun hb2919 hM => ?_)
    · refine wp_seq ?_
      refine wp_region_list ?_
      refine st1 hS (mv rfl) rfl fun a w hS => ?_
      refine st1 hS (asg rfl) rfl fun a w hS => ?_
      refine wpList_nil ?_
      refine then_n ?_
      refine wp_ret ?_
      refine then_ret ?_
      exact s_ret (rs := [2]) hS rfl rfl (hret x2914 at_2915 f2916 A2438 c2439 s2431.out_ f2440 f2433 w hM h2918 hV2441 hB2434 (hS.st.pick [1, 2, 3] (by kernel_rfl)))
    · refine wp_skip ?_
      refine then_n ?_
      refine wp_seq ?_
      refine wp_region_list ?_
      refine st1 hS (mv rfl) rfl fun a w hS => ?_
      refine st1 hS (mv rfl) rfl fun a w hS => ?_
      obtain ⟨hk2920, hM⟩ := wp_chk hM
      refine slVx (g := (ci .i64)) hS rfl Tryd.runUnderlying67 Tryd.sizeOf3 lo0 (hiS rfl) (fun _ => rfl) (h2917.cap (fun _ => rfl) rfl) hk2920 rfl fun zs2921 A2922 c2923 a w hz hd2924 hc2925 hS => ?_
      have hM := lt_to hz hM; clear hz
      refine s_call hS rfl Tryd.call30 (mortiseref07_coded_c hG K zs2921 A2922 c2923 (hd2924 _ _ _ (h2917.rdF (i := 0) rfl)) hc2925 (hS.st.part 0 [0, 1, 2, 3, 4, 5, 6, 7, 8] (by kernel_rfl)) (wp_bind hM) (fun A2926 c2927 codes2928 f2929 x2930 w hM h2931 hst => s_back hS.ev hst.appF rfl fun hS => ?_))
      replace hS : Ss _ _ _ H [f2929, f2913, f2433, f2916, f2440, f2655, f2653, f2657, f2639, f2643] F _ _ := hS
      refine st1 hS (mv rfl) rfl fun a w hS => ?_
      refine st1 hS (ex rfl rfl) rfl fun a w hS => ?_
      refine st1 hS (ex rfl rfl) rfl fun a w hS => ?_
      refine alc ([.slice none 0 0, .slice none 0 0]) hS Tryd.zeroValue71 rfl rfl fun w b2932 f2933 hB2934 hS => ?_
      obtain ⟨f2935, hV2936, hS⟩ := hS.nilV 3 (ci .i64) 1
      obtain ⟨f2937, hV2938, hS⟩ := hS.nilV 3 (ci .i64) 1
      refine stB 2 ([.slice A2922 zs2921.length c2923, .slice A2926 codes2928.length c2927]) ([.slice A2922 zs2921.length c2923, .slice A2926 codes2928.length c2927]) hS rfl rfl hB2934 rfl rfl Tryd.sizeOf71 (by simp [Value.oneCell']) (Nat.le_of_ble_eq_true rfl) rfl fun w f2939 hB2940 hS => ?_
      refine st1 hS (asg rfl) rfl fun a w hS => ?_
      refine wpList_nil ?_
      refine then_n ?_
      refine wp_seq ?_
      refine wp_region_list ?_
      refine st1 hS (mv rfl) rfl fun a w hS => ?_
      refine st1 hS (mv rfl) rfl fun a w hS => ?_
      obtain ⟨hk2941, hM⟩ := wp_chk hM
      refine slVx (g := (ci .i64)) hS rfl Tryd.runUnderlying67 Tryd.sizeOf3 (loS rfl) hi0 (fun _ => rfl) (h2917.cap (fun _ => rfl) rfl) hk2941 rfl fun zs2942 A2943 c2944 a w hz hd2945 hc2946 hS => ?_
      have hM := lt_to hz hM; clear hz
      refine s_call hS rfl Tryd.call30 (mortiseref07_coded_c hG K zs2942 A2943 c2944 (hd2945 _ _ _ (h2917.rdF (i := 4) rfl)) hc2946 (hS.st.part 0 [0, 1, 2, 3, 4, 5, 6, 7, 8, 9, 10, 11, 12] (by kernel_rfl)) (wp_bind hM) (fun A2947 c2948 codes2949 f2950 x2951 w hM h2952 hst => s_back hS.ev hst.appF rfl fun hS => ?_))
      replace hS : Ss _ _ _ H [f2950, f2937, f2935, f2939, f2929, f2913, f2433, f2916, f2440, f2655, f2653, f2657, f2639, f2643] F _ _ := hS
      refine st1 hS (mv rfl) rfl fun a w hS => ?_
      refine st1 hS (ex rfl rfl) rfl fun a w hS => ?_
      refine st1 hS (ex rfl rfl) rfl fun a w hS => ?_
      refine alc ([.slice none 0 0, .slice none 0 0]) hS Tryd.zeroValue71 rfl rfl fun w b2953 f2954 hB2955 hS => ?_
      obtain ⟨f2956, hV2957, hS⟩ := hS.nilV 3 (ci .i64) 1
      obtain ⟨f2958, hV2959, hS⟩ := hS.nilV 3 (ci .i64) 1
      refine stB 2 ([.slice A2943 zs2942.length c2944, .slice A2947 codes2949.length c2948]) ([.slice A2943 zs2942.length c2944, .slice A2947 codes2949.length c2948]) hS rfl rfl hB2955 rfl rfl Tryd.sizeOf71 (by simp [Value.oneCell']) (Nat.le_of_ble_eq_true rfl) rfl fun w f2960 hB2961 hS => ?_
      refine st1 hS (asg rfl) rfl fun a w hS => ?_
      refine wpList_nil ?_
      refine then_n ?_
      refine wp_seq ?_
      refine wp_seq ?_
      refine wp_region_list ?_
      refine st1 hS (mv rfl) rfl fun a w hS => ?_
      refine st1 hS (un rfl rfl) rfl fun a w hS => ?_
      refine st1 hS (mv rfl) rfl fun a w hS => ?_
      refine g_op 2 false 51 (b := (!x2930)) (r := (!x2951)) hS rfl rfl rfl rfl rfl rfl rfl (fun hb a w hS K hK => ?_) rfl fun a w hS => ?_
      · refine st1g hS rfl rfl rfl hb (mv rfl) rfl fun a w hS => ?_
        refine st1g hS rfl rfl rfl hb (un rfl rfl) rfl fun a w hS => ?_
        exact wpList_nil (hK _ _ (hS.up 2 rfl rfl))
      refine st1 hS (mv rfl) rfl fun a w hS => ?_
      obtain ⟨hk2964, hM⟩ := wp_chk hM
      refine g_op 4 false 55 (b := ((!x2930) || (!x2951))) (r := ((rd x2912 (256 : Int)) == (0 : Int))) hS rfl rfl rfl rfl rfl rfl rfl (fun hb a w hS K hK => ?_) rfl fun a w hS => ?_
      · refine st1g hS rfl rfl rfl hb (mv rfl) rfl fun a w hS => ?_
        have hk2963 := imp_of hk2964 hb
        refine st1g hS rfl rfl rfl hb (ixV rfl rfl Tryd.runUnderlying67 Tryd.sizeOf3 (h2917.rd (i := 8) rfl) (fun _ => rfl) rfl hk2963) rfl fun a w hS => ?_
        refine st1g hS rfl rfl rfl hb (ldV0 rfl (h2917.rd (i := 8) rfl) (fun _ => rfl) hk2963 rfl Tryd.isAgg3) rfl fun a w hS => ?_
        refine st1g hS rfl rfl rfl hb (bin rfl rfl rfl) rfl fun a w hS => ?_
        exact wpList_nil (hK _ _ (hS.up 4 rfl rfl))
      refine wpList_nil ?_
      refine then_n ?_
      refine s_cond hS rfl hM (fun hb2965 hM => ?_) (fun hb2965 hM => ?_)
      · refine wp_seq ?_
        refine wp_region_list ?_
        refine st1 hS (asg rfl) rfl fun a w hS => ?_
        refine wpList_nil ?_
        refine then_n ?_
        refine wp_ret ?_
        refine then_ret ?_
        exact s_ret (rs := [2]) hS rfl rfl (hret (3 : Int) at_2915 f2916 A2438 c2439 s2431.out_ f2440 f2433 w hM h2918 hV2441 hB2434 (hS.st.pick [9, 10, 11] (by kernel_rfl)))
      · refine wp_skip ?_
        refine then_n ?_
        refine wp_seq ?_
        refine wp_region_list ?_
        refine st1 hS (mv rfl) rfl fun a w hS => ?_
        refine st1 hS (ldbA 6 rfl hB2940 rfl ([.slice A2922 zs2921.length c2923, .slice A2926 codes2928.length c2927]) rfl rfl Tryd.isAgg71 Tryd.sizeOf71) rfl fun a w hS => ?_
        refine st1 hS (ldbA 2 rfl hB2961 rfl ([.slice A2943 zs2942.length c2944, .slice A2947 codes2949.length c2948]) rfl rfl Tryd.isAgg71 Tryd.sizeOf71) rfl fun a w hS => ?_
        refine s_call hS rfl Tryd.call31 (mortiseref07_state_symbols_c hG K (T_mortiseref07_state.mk (T_mortiseref05_Reader.mk s2431.r_.S_ at_2915) s2431.out_ s2431.limit_) (T_mortiseref07_code.mk zs2921 codes2928) (T_mortiseref07_code.mk zs2942 codes2949) b2432 f2433 b2435 f2916 A2438 c2439 f2440 A2922 c2923 A2926 c2927 A2943 c2944 A2947 c2948 hB2434 h2918 hV2441 (hd2924 _ _ _ (h2917.rdF (i := 8) rfl)) hc2925 (h2931.rdF (i := 7) rfl) (h2931.cap (fun _ => rfl) rfl) (hd2945 _ _ _ (h2917.rdF (i := 8) rfl)) hc2946 (h2952.rdF (i := 3) rfl) (h2952.cap (fun _ => rfl) rfl) (hS.st.part 3 [9, 10, 11, 0, 1, 2, 3, 4, 5, 6, 7, 8, 12, 13, 14, 15, 16] (by kernel_rfl)) (wp_bind hM) (fun x2966 at_2967 f2968 A2969 c2970 out2971 f2972 f2973 w hM h2974 h2975 h2976 hst => s_back hS.ev hst.appF rfl fun hS => ?_))
        replace hS : Ss _ _ _ H [f2973, f2968, f2972, f2958, f2956, f2960, f2950, f2937, f2935, f2939, f2929, f2913, f2655, f2653, f2657, f2639, f2643] F _ _ := hS
        refine st1 hS (asg rfl) rfl fun a w hS => ?_
        refine wpList_nil ?_
        refine then_n ?_
        refine wp_ret ?_
        exact s_ret (rs := [2]) hS rfl rfl (hret x2966 at_2967 f2968 A2969 c2970 out2971 f2972 f2973 w hM h2974 h2975 h2976 (hS.st.pick [0, 1, 2] (by kernel_rfl)))

theorem mortiseref07_state_block_c {H : Imm} {F : List Frag} {w : World} {R : Ending → World → Prop} {kr : (Bool × Int × Int × (List Int)) → Prop} {kp : Value → Prop} (hG : Gl H) (K : Nat) (s1515 : T_mortiseref07_state) (b1516 : Nat) (f1517 : Frag) (b1519 : Nat) (f1520 : Frag) (A1522 : Option Addr) (c1523 : Nat) (f1524 : Frag) (hB1518 : Blk f1517 b1516 ([ptr b1519 0, .slice A1522 s1515.out_.length c1523, .int .i64 s1515.limit_]) 51) (hB1521 : Blk f1520 b1519 ([str s1515.r_.S_, .int .i64 s1515.r_.At_]) 49) (hV1525 : Vec 5 (ci .u8) 1 A1522 s1515.out_ c1523 f1524)
    (hS : St w H [f1517, f1520, f1524] F) (hm : (mortiseref07_state_block.m K s1515).wp kr kp)
    (hret : ∀ (x3000 : Bool) (x3001 : Int) (at_3002 : Int) (f3003 : Frag) (A3005 : Option Addr) (c3006 : Nat) (out3007 : (List Int)) (f3008 : Frag) (f3010 : Frag) (w : World), kr (x3000, x3001, at_3002, out3007) → (Blk f3003 b1519 ([str s1515.r_.S_, .int .i64 at_3002]) 49) → (Vec 5 (ci .u8) 1 A3005 out3007 c3006 f3008) → (Blk f3010 b1516 ([ptr b1519 0, .slice A3005 out3007.length c3006, .int .i64 s1515.limit_]) 51) → St w H [f3010, f3003, f3008] F → R (.returned (.tuple ⟨[.bool x3000, .int .i64 x3001]⟩)) w) :
    Calls Tryd.prog 20 ⟨[ptr b1516 0]⟩ w R := by
  refine enter Tryd.func20 rfl Tryd.ntmps20 rfl hS fun a w hS => ?_
  have hM := hm; clear hm
  rw [mortiseref07_state_block.m] at hM
  refine wp_seq ?_
  refine wp_region_list ?_
  refine st1 hS (asg rfl) rfl fun a w hS => ?_
  refine st1 hS (asg rfl) rfl fun a w hS => ?_
  refine wpList_nil ?_
  refine then_n ?_
  refine wp_seq ?_
  refine wp_region_list ?_
  refine st1 hS (mv rfl) rfl fun a w hS => ?_
  refine s_call hS rfl Tryd.call27 (mortiseref07_state_bits_c hG K s1515 (1 : Int) (0 : Int) b1516 f1517 b1519 f1520 A1522 c1523 f1524 hB1518 hB1521 hV1525 (hS.st.part 3 [0, 1, 2] (by kernel_rfl)) (wp_bind hM) (fun x1578 x1579 at_1580 f1581 w hM h1582 hst => s_back hS.ev hst.appF rfl fun hS => ?_))
  replace hS : Ss _ _ _ H [f1517, f1581, f1524] F _ _ := hS
  refine st1 hS (mv rfl) rfl fun a w hS => ?_
  refine st1 hS (ex rfl rfl) rfl fun a w hS => ?_
  refine st1 hS (ex rfl rfl) rfl fun a w hS => ?_
  refine st1 hS (asg rfl) rfl fun a w hS => ?_
  refine st1 hS (asg rfl) rfl fun a w hS => ?_
  refine wpList_nil ?_
  refine then_n ?_
  refine wp_seq ?_
  refine wp_seq ?_
  refine wp_region_list ?_
  refine st1 hS (mv rfl) rfl fun a w hS => ?_
  refine st1 hS (bin rfl rfl rfl) rfl fun a w hS => ?_
  refine wpList_nil ?_
  refine then_n ?_
  refine s_cond hS rfl hM (fun hb1583 hM => ?_) (fun hb1583 hM => ?_)
  · refine wp_seq ?_
    refine wp_region_list ?_
    refine st1 hS (mv rfl) rfl fun a w hS => ?_
    refine st1 hS (asg rfl) rfl fun a w hS => ?_
    refine st1 hS (asg rfl) rfl fun a w hS => ?_
    refine wpList_nil ?_
    refine then_n ?_
    refine wp_ret ?_
    refine then_ret ?_
    exact s_ret (rs := [2, 3]) hS rfl rfl (hret false x1579 at_1580 f1581 A1522 c1523 s1515.out_ f1524 f1517 w hM h1582 hV1525 hB1518 (hS.st.pick [0, 1, 2] (by kernel_rfl)))
  · refine wp_skip ?_
    refine then_n ?_
    refine wp_seq ?_
    refine wp_region_list ?_
    refine st1 hS (mv rfl) rfl fun a w hS => ?_
    refine s_call hS rfl Tryd.call27 (mortiseref07_state_bits_c hG K (T_mortiseref07_state.mk (T_mortiseref05_Reader.mk s1515.r_.S_ at_1580) s1515.out_ s1515.limit_) (2 : Int) (0 : Int) b1516 f1517 b1519 f1581 A1522 c1523 f1524 hB1518 h1582 hV1525 (hS.st.part 3 [0, 1, 2] (by kernel_rfl)) (wp_bind hM) (fun x1584 x1585 at_1586 f1587 w hM h1588 hst => s_back hS.ev hst.appF rfl fun hS => ?_))
    replace hS : Ss _ _ _ H [f1517, f1587, f1524] F _ _ := hS
    refine st1 hS (mv rfl) rfl fun a w hS => ?_
    refine st1 hS (ex rfl rfl) rfl fun a w hS => ?_
    refine st1 hS (ex rfl rfl) rfl fun a w hS => ?_
    refine st1 hS (asg rfl) rfl fun a w hS => ?_
    refine st1 hS (asg rfl) rfl fun a w hS => ?_
    refine wpList_nil ?_
    refine then_n ?_
    refine wp_seq ?_
    refine wp_seq ?_
    refine wp_region_list ?_
    refine st1 hS (mv rfl) rfl fun a w hS => ?_
    refine st1 hS (bin rfl rfl rfl) rfl fun a w hS => ?_
    refine wpList_nil ?_
    refine then_n ?_
    refine s_cond hS rfl hM (fun hb1589 hM => ?_) (fun hb1589 hM => ?_)
    · refine wp_seq ?_
      refine wp_region_list ?_
      refine st1 hS (mv rfl) rfl fun a w hS => ?_
      refine st1 hS (asg rfl) rfl fun a w hS => ?_
      refine st1 hS (asg rfl) rfl fun a w hS => ?_
      refine wpList_nil ?_
      refine then_n ?_
      refine wp_ret ?_
      refine then_ret ?_
      exact s_ret (rs := [2, 3]) hS rfl rfl (hret false x1585 at_1586 f1587 A1522 c1523 s1515.out_ f1524 f1517 w hM h1588 hV1525 hB1518 (hS.st.pick [0, 1, 2] (by kernel_rfl)))
    · refine wp_skip ?_
      refine then_n ?_
      refine wp_seq ?_
      refine wp_seq ?_
      refine wp_region_list ?_
      refine st1 hS (mv rfl) rfl fun a w hS => ?_
      refine wpList_nil ?_
      refine then_n ?_
      refine wp_block ?_
      refine wp_seq ?_
      refine wp_region_list ?_
      refine st1 hS (bin rfl rfl rfl) rfl fun a w hS => ?_
      refine st1x (v := Value.bool) hS (asg rfl) rfl fun v1590 a w hz hS => ?_
      have hM := lt_to hz hM; clear hz
      refine wpList_nil ?_
      refine then_n ?_
      refine s_cond hS rfl hM (fun hb1591 hM => ?_) (fun hb1591 hM => ?_)
      · refine wp_seq ?_
        refine wp_region_list ?_
        refine st1 hS (mv rfl) rfl fun a w hS => ?_
        refine st1 hS (bin rfl rfl rfl) rfl fun a w hS => ?_
        refine st1 hS (mv rfl) rfl fun a w hS => ?_
        refine s_call hS rfl Tryd.call28 (mortiseref07_state_stored_c hG K (T_mortiseref07_state.mk (T_mortiseref05_Reader.mk s1515.r_.S_ at_1586) s1515.out_ s1515.limit_) b1516 f1517 b1519 f1587 A1522 c1523 f1524 hB1518 h1588 hV1525 (hS.st.part 3 [0, 1, 2] (by kernel_rfl)) (wp_bind hM) (fun x1688 at_1689 f1690 A1691 c1692 out1693 f1694 f1695 w hM h1696 h1697 h1698 hst => s_back hS.ev hst.appF rfl fun hS => ?_))
        replace hS : Ss _ _ _ H [f1695, f1690, f1694] F _ _ := hS
        refine st1x (v := Value.bool) hS (asg rfl) rfl fun v1699 a w hz hS => ?_
        have hM := lt_to hz hM; clear hz
        refine st1 hS (asg rfl) rfl fun a w hS => ?_
        refine wpList_nil ?_
        refine then_n ?_
        refine wp_ret ?_
        refine blk_ret (then_ret ?_)
        exact s_ret (rs := [2, 3]) hS rfl rfl (hret v1699 x1688 at_1689 f1690 A1691 c1692 out1693 f1694 f1695 w hM h1696 h1697 h1698 (hS.st.pick [0, 1, 2] (by kernel_rfl)))
      · refine wp_seq ?_
        refine wp_region_list ?_
        refine st1 hS (bin rfl rfl rfl) rfl fun a w hS => ?_
        refine st1x (v := Value.bool) hS (asg rfl) rfl fun v1700 a w hz hS => ?_
        have hM := lt_to hz hM; clear hz
        refine wpList_nil ?_
        refine then_n ?_
        refine s_cond hS rfl hM (fun hb1701 hM => ?_) (fun hb1701 hM => ?_)
        · refine wp_seq ?_
          refine wp_region_list ?_
          refine s_call hS rfl Tryd.call29 (mortiseref07_Fixed_c hG K  (hS.st.part 0 [0, 1, 2] (by kernel_rfl)) (wp_bind hM) (fun A1816 c1817 x1818 f1819 A1820 c1821 x1822 f1823 w hM h1824 h1825 hst => s_back hS.ev hst.appF rfl fun hS => ?_))
          replace hS : Ss _ _ _ H [f1819, f1823, f1517, f1587, f1524] F _ _ := hS
          refine st1 hS (mv rfl) rfl fun a w hS => ?_
          refine st1 hS (ex rfl rfl) rfl fun a w hS => ?_
          refine st1 hS (ex rfl rfl) rfl fun a w hS => ?_
          refine st1 hS (asg rfl) rfl fun a w hS => ?_
          refine st1 hS (asg rfl) rfl fun a w hS => ?_
          refine wpList_nil ?_
          refine then_n ?_
          refine wp_seq ?_
          refine wp_region_list ?_
          refine st1 hS (mv rfl) rfl fun a w hS => ?_
          refine s_call hS rfl Tryd.call30 (mortiseref07_coded_c hG K x1818 A1816 c1817 (h1824.rdF (i := 0) rfl) (h1824.cap (fun _ => rfl) rfl) (hS.st.part 0 [0, 1, 2, 3, 4] (by kernel_rfl)) (wp_bind hM) (fun A2007 c2008 codes2009 f2010 x2011 w hM h2012 hst => s_back hS.ev hst.appF rfl fun hS => ?_))
          replace hS : Ss _ _ _ H [f2010, f1819, f1823, f1517, f1587, f1524] F _ _ := hS
          refine st1 hS (mv rfl) rfl fun a w hS => ?_
          refine st1 hS (ex rfl rfl) rfl fun a w hS => ?_
          refine st1 hS (ex rfl rfl) rfl fun a w hS => ?_
          refine alc ([.slice none 0 0, .slice none 0 0]) hS Tryd.zeroValue71 rfl rfl fun w b2013 f2014 hB2015 hS => ?_
          obtain ⟨f2016, hV2017, hS⟩ := hS.nilV 3 (ci .i64) 1
          obtain ⟨f2018, hV2019, hS⟩ := hS.nilV 3 (ci .i64) 1
          refine stB 2 ([.slice A1816 x1818.length c1817, .slice A2007 codes2009.length c2008]) ([.slice A1816 x1818.length c1817, .slice A2007 codes2009.length c2008]) hS rfl rfl hB2015 rfl rfl Tryd.sizeOf71 (by simp [Value.oneCell']) (Nat.le_of_ble_eq_true rfl) rfl fun w f2020 hB2021 hS => ?_
          refine st1 hS (asg rfl) rfl fun a w hS => ?_
          refine wpList_nil ?_
          refine then_n ?_
          refine wp_seq ?_
          refine wp_region_list ?_
          refine st1 hS (mv rfl) rfl fun a w hS => ?_
          refine s_call hS rfl Tryd.call30 (mortiseref07_coded_c hG K x1822 A1820 c1821 (h1825.rdF (i := 5) rfl) (h1825.cap (fun _ => rfl) rfl) (hS.st.part 0 [0, 1, 2, 3, 4, 5, 6, 7, 8] (by kernel_rfl)) (wp_bind hM) (fun A2022 c2023 codes2024 f2025 x2026 w hM h2027 hst => s_back hS.ev hst.appF rfl fun hS => ?_))
          replace hS : Ss _ _ _ H [f2025, f2018, f2016, f2020, f2010, f1819, f1823, f1517, f1587, f1524] F _ _ := hS
          refine st1 hS (mv rfl) rfl fun a w hS => ?_
          refine st1 hS (ex rfl rfl) rfl fun a w hS => ?_
          refine st1 hS (ex rfl rfl) rfl fun a w hS => ?_
          refine alc ([.slice none 0 0, .slice none 0 0]) hS Tryd.zeroValue71 rfl rfl fun w b2028 f2029 hB2030 hS => ?_
          obtain ⟨f2031, hV2032, hS⟩ := hS.nilV 3 (ci .i64) 1
          obtain ⟨f2033, hV2034, hS⟩ := hS.nilV 3 (ci .i64) 1
          refine stB 2 ([.slice A1820 x1822.length c1821, .slice A2022 codes2024.length c2023]) ([.slice A1820 x1822.length c1821, .slice A2022 codes2024.length c2023]) hS rfl rfl hB2030 rfl rfl Tryd.sizeOf71 (by simp [Value.oneCell']) (Nat.le_of_ble_eq_true rfl) rfl fun w f2035 hB2036 hS => ?_
          refine st1 hS (asg rfl) rfl fun a w hS => ?_
          refine wpList_nil ?_
          refine then_n ?_
          refine wp_seq ?_
          refine wp_region_list ?_
          refine st1 hS (mv rfl) rfl fun a w hS => ?_
          refine st1 hS (bin rfl rfl rfl) rfl fun a w hS => ?_
          refine st1 hS (mv rfl) rfl fun a w hS => ?_
          refine st1 hS (ldbA 6 rfl hB2021 rfl ([.slice A1816 x1818.length c1817, .slice A2007 codes2009.length c2008]) rfl rfl Tryd.isAgg71 Tryd.sizeOf71) rfl fun a w hS => ?_
          refine st1 hS (ldbA 2 rfl hB2036 rfl ([.slice A1820 x1822.length c1821, .slice A2022 codes2024.length c2023]) rfl rfl Tryd.isAgg71 Tryd.sizeOf71) rfl fun a w hS => ?_
          refine s_call hS rfl Tryd.call31 (mortiseref07_state_symbols_c hG K (T_mortiseref07_state.mk (T_mortiseref05_Reader.mk s1515.r_.S_ at_1586) s1515.out_ s1515.limit_) (T_mortiseref07_code.mk x1818 codes2009) (T_mortiseref07_code.mk x1822 codes2024) b1516 f1517 b1519 f1587 A1522 c1523 f1524 A1816 c1817 A2007 c2008 A1820 c1821 A2022 c2023 hB1518 h1588 hV1525 (h1824.rdF (i := 8) rfl) (h1824.cap (fun _ => rfl) rfl) (h2012.rdF (i := 7) rfl) (h2012.cap (fun _ => rfl) rfl) (h1825.rdF (i := 9) rfl) (h1825.cap (fun _ => rfl) rfl) (h2027.rdF (i := 3) rfl) (h2027.cap (fun _ => rfl) rfl) (hS.st.part 3 [10, 11, 12, 0, 1, 2, 3, 4, 5, 6, 7, 8, 9] (by kernel_rfl)) (wp_bind hM) (fun x2417 at_2418 f2419 A2420 c2421 out2422 f2423 f2424 w hM h2425 h2426 h2427 hst => s_back hS.ev hst.appF rfl fun hS => ?_))
          replace hS : Ss _ _ _ H [f2424, f2419, f2423, f2033, f2031, f2035, f2025, f2018, f2016, f2020, f2010, f1819, f1823] F _ _ := hS
          refine st1x (v := Value.bool) hS (asg rfl) rfl fun v2428 a w hz hS => ?_
          have hM := lt_to hz hM; clear hz
          refine st1 hS (asg rfl) rfl fun a w hS => ?_
          refine wpList_nil ?_
          refine then_n ?_
          refine wp_ret ?_
          refine blk_ret (then_ret ?_)
          exact s_ret (rs := [2, 3]) hS rfl rfl (hret v2428 x2417 at_2418 f2419 A2420 c2421 out2422 f2423 f2424 w hM h2425 h2426 h2427 (hS.st.pick [0, 1, 2] (by kernel_rfl)))
        · refine wp_seq ?_
          refine wp_region_list ?_
          refine st1 hS (bin rfl rfl rfl) rfl fun a w hS => ?_
          refine st1x (v := Value.bool) hS (asg rfl) rfl fun v2429 a w hz hS => ?_
          have hM := lt_to hz hM; clear hz
          refine wpList_nil ?_
          refine then_n ?_
          refine s_cond hS rfl hM (fun hb2430 hM => ?_) (fun hb2430 hM => ?_)
          · refine wp_seq ?_
            refine wp_region_list ?_
            refine st1 hS (mv rfl) rfl fun a w hS => ?_
            refine st1 hS (bin rfl rfl rfl) rfl fun a w hS => ?_
            refine st1 hS (mv rfl) rfl fun a w hS => ?_
            refine s_call hS rfl Tryd.call32 (mortiseref07_state_dynamic_c hG K (T_mortiseref07_state.mk (T_mortiseref05_Reader.mk s1515.r_.S_ at_1586) s1515.out_ s1515.limit_) b1516 f1517 b1519 f1587 A1522 c1523 f1524 hB1518 h1588 hV1525 (hS.st.part 3 [0, 1, 2] (by kernel_rfl)) (wp_bind hM) (fun x2988 at_2989 f2990 A2991 c2992 out2993 f2994 f2995 w hM h2996 h2997 h2998 hst => s_back hS.ev hst.appF rfl fun hS => ?_))
            replace hS : Ss _ _ _ H [f2995, f2990, f2994] F _ _ := hS
            refine st1x (v := Value.bool) hS (asg rfl) rfl fun v2999 a w hz hS => ?_
            have hM := lt_to hz hM; clear hz
            refine st1 hS (asg rfl) rfl fun a w hS => ?_
            refine wpList_nil ?_
            refine then_n ?_
            refine wp_ret ?_
            refine blk_ret (then_ret ?_)
            exact s_ret (rs := [2, 3]) hS rfl rfl (hret v2999 x2988 at_2989 f2990 A2991 c2992 out2993 f2994 f2995 w hM h2996 h2997 h2998 (hS.st.pick [0, 1, 2] (by kernel_rfl)))
          · refine wp_skip ?_
            refine blk_n (then_n ?_)
            refine wp_seq ?_
            refine wp_region_list ?_
            refine st1 hS (asg rfl) rfl fun a w hS => ?_
            refine st1 hS (asg rfl) rfl fun a w hS => ?_
            refine wpList_nil ?_
            refine then_n ?_
            refine wp_ret ?_
            exact s_ret (rs := [2, 3]) hS rfl rfl (hret false (3 : Int) at_1586 f1587 A1522 c1523 s1515.out_ f1524 f1517 w hM h1588 hV1525 hB1518 (hS.st.pick [0, 1, 2] (by kernel_rfl)))

theorem mortiseref07_Inflate_c {H : Imm} {F : List Frag} {w : World} {R : Ending → World → Prop} {kr : ((List UInt8) × Int × Int) → Prop} {kp : Value → Prop} (hG : Gl H) (K : Nat) (t1503 : List UInt8) (limit1504 : Int)
    (hS : St w H [] F) (hm : (mortiseref07_Inflate.m K t1503 limit1504).wp kr kp)
    (hret : ∀ (x3070 : List UInt8) (x3071 : Int) (x3072 : Int) (w : World), kr (x3070, x3071, x3072) → St w H [] F → R (.returned (.tuple ⟨[str x3070, .int .i64 x3071, .int .i64 x3072]⟩)) w) :
    Calls Tryd.prog 11 ⟨[str t1503, .int .i64 limit1504]⟩ w R := by
  refine enter Tryd.func11 rfl Tryd.ntmps11 rfl hS fun a w hS => ?_
  have hM := hm; clear hm
  rw [mortiseref07_Inflate.m] at hM
  refine wp_seq ?_
  refine wp_region_list ?_
  refine st1 hS (asg rfl) rfl fun a w hS => ?_
  refine st1 hS (asg rfl) rfl fun a w hS => ?_
  refine st1 hS (asg rfl) rfl fun a w hS => ?_
  refine wpList_nil ?_
  refine then_n ?_
  refine wp_seq ?_
  refine wp_seq ?_
  refine wp_region_list ?_
  refine st1 hS (mv rfl) rfl fun a w hS => ?_
  refine st1 hS (bin rfl rfl rfl) rfl fun a w hS => ?_
  refine st1 hS (mv rfl) rfl fun a w hS => ?_
  refine g_op 2 false 12 (b := (decide (limit1504 < (0 : Int)))) (r := (decide (limit1504 > (1073741824 : Int)))) hS rfl rfl rfl rfl rfl rfl rfl (fun hb a w hS K hK => ?_) rfl fun a w hS => ?_
  · refine st1g hS rfl rfl rfl hb (mv rfl) rfl fun a w hS => ?_
    refine st1g hS rfl rfl rfl hb (bin rfl rfl rfl) rfl fun a w hS => ?_
    exact wpList_nil (hK _ _ (hS.up 2 rfl rfl))
  refine wpList_nil ?_
  refine then_n ?_
  refine s_cond hS rfl hM (fun hb1505 hM => ?_) (fun hb1505 hM => ?_)
  · refine wp_seq ?_
    refine wp_region_list ?_
    refine st1 hS (asg rfl) rfl fun a w hS => ?_
    refine st1 hS (asg rfl) rfl fun a w hS => ?_
    refine st1 hS (asg rfl) rfl fun a w hS => ?_
    refine wpList_nil ?_
    refine then_n ?_
    refine wp_ret ?_
    refine then_ret ?_
    exact s_ret (rs := [4, 5, 6]) hS rfl rfl (hret ([] : List UInt8) (0 : Int) (1 : Int) w hM (hS.st.pick [] (by kernel_rfl)))
  · refine wp_skip ?_
    refine then_n ?_
    refine wp_seq ?_
    refine wp_region_list ?_
    refine st1 hS (mv rfl) rfl fun a w hS => ?_
    refine st1 hS (bld ([str t1503, .int .i64 (0 : Int)]) [(0, 1), (1, 1)] Tryd.zeroValue49 Tryd.runUnderlying49 (by intro w; simp [Tryd.sizeOf3, Tryd.sizeOf9]) rfl rfl) rfl fun a w hS => ?_
    refine bx ([str t1503, .int .i64 (0 : Int)]) hS rfl rfl rfl fun w b1506 f1507 hB1508 hS => ?_
    refine st1 hS (mv rfl) rfl fun a w hS => ?_
    refine st1 hS (bld ([ptr b1506 0, .slice none 0 0, .int .i64 limit1504]) [(0, 1), (1, 1), (2, 1)] Tryd.zeroValue51 Tryd.runUnderlying51 (by intro w; simp [Tryd.sizeOf3, Tryd.sizeOf30, Tryd.sizeOf47]) rfl rfl) rfl fun a w hS => ?_
    refine bx ([ptr b1506 0, .slice none 0 0, .int .i64 limit1504]) hS rfl rfl rfl fun w b1509 f1510 hB1511 hS => ?_
    obtain ⟨f1512, hV1513, hS⟩ := hS.nilV 5 (ci .u8) 1
    refine st1 hS (asg rfl) rfl fun a w hS => ?_
    refine wpList_nil ?_
    refine then_n ?_
    refine wp_block ?_
    refine s_loopJ (fun k3050 a w => ∃ (at_3040 : Int) (f3041 : Frag) (A3043 : Option Addr) (c3044 : Nat) (out3045 : (List Int)) (f3046 : Frag) (f3048 : Frag), Ss 45 [] [(7, ptr b1509 0)] H [f3048, f3041, f3046] F a w ∧ (Blk f3041 b1506 ([str t1503, .int .i64 at_3040]) 49) ∧ (Vec 5 (ci .u8) 1 A3043 out3045 c3044 f3046) ∧ (Blk f3048 b1509 ([ptr b1506 0, .slice A3043 out3045.length c3044, .int .i64 limit1504]) 51) ∧ (mortiseref07_Inflate.l1 K t1503 limit1504 k3050 at_3040 out3045).wp kr kp) K ?_ ?_ ?_
    · exact ⟨(0 : Int), f1507, none, 0, ([] : List Int), f1512, f1510, hS.to [1, 2, 0] (by kernel_rfl) ⟨rfl, trivial⟩, hB1508, hV1513, hB1511, hM⟩
    · intro a w hI; obtain ⟨_, _, _, _, _, _, _, _, _, _, _, hM⟩ := hI; exact hM
    · intro k3050 a w hI J3069 hJ3069
      obtain ⟨at_3040, f3041, A3043, c3044, out3045, f3046, f3048, hS, hB3042, hV3047, hB3049, hM⟩ := hI
      rw [mortiseref07_Inflate.l1] at hM
      refine wp_block ?_
      refine wp_seq ?_
      refine wp_region_list ?_
      refine st1 hS (mv rfl) rfl fun a w hS => ?_
      refine s_call hS rfl Tryd.call20 (mortiseref07_state_block_c hG K (T_mortiseref07_state.mk (T_mortiseref05_Reader.mk t1503 at_3040) out3045 limit1504) b1509 f3048 b1506 f3041 A3043 c3044 f3046 hB3049 hB3042 hV3047 (hS.st.part 3 [0, 1, 2] (by kernel_rfl)) (wp_bind hM) (fun x3051 x3052 at_3053 f3054 A3055 c3056 out3057 f3058 f3059 w hM h3060 h3061 h3062 hst => s_back hS.ev hst.appF rfl fun hS => ?_))
      replace hS : Ss _ _ _ H [f3059, f3054, f3058] F _ _ := hS
      refine st1 hS (mv rfl) rfl fun a w hS => ?_
      refine st1 hS (ex rfl rfl) rfl fun a w hS => ?_
      refine st1 hS (ex rfl rfl) rfl fun a w hS => ?_
      refine st1 hS (asg rfl) rfl fun a w hS => ?_
      refine st1 hS (asg rfl) rfl fun a w hS => ?_
      refine wpList_nil ?_
      refine then_n ?_
      refine wp_seq ?_
      refine wp_seq ?_
      refine wp_region_list ?_
      refine st1 hS (mv rfl) rfl fun a w hS => ?_
      refine st1 hS (bin rfl rfl rfl) rfl fun a w hS => ?_
      refine wpList_nil ?_
      refine then_n ?_
      refine s_cond hS rfl hM (fun hb3063 hM => ?_) (fun hb3063 hM => ?_)
      · refine wp_seq ?_
        refine wp_region_list ?_
        refine st1 hS (mv rfl) rfl fun a w hS => ?_
        refine st1 hS (asg rfl) rfl fun a w hS => ?_
        refine st1 hS (asg rfl) rfl fun a w hS => ?_
        refine st1 hS (asg rfl) rfl fun a w hS => ?_
        refine wpList_nil ?_
        refine then_n ?_
        refine wp_ret ?_
        refine then_ret (blk_ret (then_ret (blk_ret ?_)))
        exact s_ret (rs := [4, 5, 6]) hS rfl rfl (hret ([] : List UInt8) (0 : Int) x3052 w hM (hS.st.pick [] (by kernel_rfl)))
      · refine wp_skip ?_
        refine then_n ?_
        refine wp_seq ?_
        refine wp_region_list ?_
        refine st1 hS (mv rfl) rfl fun a w hS => ?_
        refine wpList_nil ?_
        refine then_n ?_
        refine s_cond hS rfl hM (fun hb3064 hM => ?_) (fun hb3064 hM => ?_)
        · refine wp_seq ?_
          obtain ⟨v3065, hz3066⟩ : ∃ x, x = (out3057.map tob) := ⟨_, rfl⟩
          replace hM := lt_to hz3066 hM
          obtain ⟨v3067, hz3068⟩ : ∃ x, x = (iquo .i64 (w64 (at_3053 + (7 : Int))) (8 : Int)) := ⟨_, rfl⟩
          replace hM := lt_to hz3068 hM
          refine draw_begin (vals := [some (ptr b1509 0), some (ptr b1509 0), some (ptr b1509 1), some (.slice A3055 out3057.length c3056), some (str (out3057.map tob)), some (ptr b1509 0), some (ptr b1509 0), some (ptr b1509 0), some (ptr b1506 0), some (ptr b1506 0), some (ptr b1506 1), some (.int .i64 at_3053), some (.int .i64 (w64 (at_3053 + (7 : Int)))), some (.int .i64 (iquo .i64 (w64 (at_3053 + (7 : Int))) (8 : Int))), some (str v3065), some (.int .i64 v3067), some (.int .i64 (0 : Int))]) hS mixed rfl ?_
          intro l w ho hcl hA hst
          refine phaseE (vals := [some (ptr b1509 0), some (ptr b1509 0), some (ptr b1509 1), some (.slice A3055 out3057.length c3056), some (str (out3057.map tob)), some (ptr b1509 0), some (ptr b1509 0), some (ptr b1509 0), some (ptr b1506 0), some (ptr b1506 0), some (ptr b1506 1), some (.int .i64 at_3053), some (.int .i64 (w64 (at_3053 + (7 : Int)))), some (.int .i64 (iquo .i64 (w64 (at_3053 + (7 : Int))) (8 : Int))), some (str v3065), some (.int .i64 v3067), some (.int .i64 (0 : Int))]) [] [0, 1, 2, 3, 4, 5, 6, 7, 8, 9, 10, 11, 12, 13, 14, 15, 16] rfl rfl rfl (by exact ⟨nR rfl rfl rfl rfl rfl (by exact ovE (mv rfl) rfl), nR rfl rfl rfl rfl rfl (by exact ovE (nck rfl) rfl), nR rfl rfl rfl rfl rfl (by exact ovE (fad rfl Tryd.runUnderlying51 rfl Tryd.sizeOf30 rfl) rfl), nR rfl rfl rfl rfl rfl (by exact ovE (ldb 0 rfl h3062 rfl rfl Tryd.isAgg30) rfl), nR rfl rfl rfl rfl rfl (by exact ovE (cbs rfl Tryd.runUnderlying30 Tryd.runUnderlying5 Tryd.runUnderlying9 (h3061.rd (i := 2) rfl)) rfl), nR rfl rfl rfl rfl rfl (by exact ovE (mv rfl) rfl), nR rfl rfl rfl rfl rfl (by exact ovE (nck rfl) rfl), nR rfl rfl rfl rfl rfl (by exact ovE (fad rfl Tryd.runUnderlying51 rfl Tryd.sizeOf47 rfl) rfl), nR rfl rfl rfl rfl rfl (by exact ovE (ldb 0 rfl h3062 rfl rfl Tryd.isAgg47) rfl), nR rfl rfl rfl rfl rfl (by exact ovE (nck rfl) rfl), nR rfl rfl rfl rfl rfl (by exact ovE (fad rfl Tryd.runUnderlying49 rfl Tryd.sizeOf3 rfl) rfl), nR rfl rfl rfl rfl rfl (by exact ovE (ldb 1 rfl h3060 rfl rfl Tryd.isAgg3) rfl), nR rfl rfl rfl rfl rfl (by exact ovE (bin rfl rfl rfl) rfl), nR rfl rfl rfl rfl rfl (by exact ovE (quo rfl rfl rfl) rfl), nR rfl rfl rfl rfl rfl (by exact ovE (asg rfl) (congrArg (str) hz3066.symm)), nR rfl rfl rfl rfl rfl (by exact ovE (asg rfl) (congrArg (Value.int .i64) hz3068.symm)), nR rfl rfl rfl rfl rfl (by exact ovE (asg rfl) rfl), trivial⟩) (fun a w hS => ?_) ho hcl (fun m hm => (List.not_mem_nil hm).elim) hA hst
          replace hS := hS.env2 (e' := [(4, str v3065), (5, .int .i64 v3067), (6, .int .i64 (0 : Int))]) ⟨rfl, rfl, rfl, trivial⟩
          refine then_n ?_
          refine wp_ret ?_
          refine blk_ret (then_ret (blk_ret ?_))
          exact s_ret (rs := [4, 5, 6]) hS rfl rfl (hret v3065 v3067 (0 : Int) w hM (hS.st.pick [] (by kernel_rfl)))
        · refine wp_skip ?_
          refine blk_n (then_n ?_)
          exact hJ3069 _ _ ⟨at_3053, f3054, A3055, c3056, out3057, f3058, f3059, hS.to [0, 1, 2] (by kernel_rfl) ⟨rfl, trivial⟩, h3060, h3061, h3062, hM⟩

theorem mortiselaw07_InflateReads_c {H : Imm} {F : List Frag} {w : World} {R : Ending → World → Prop} {kr : Bool → Prop} {kp : Value → Prop} (hG : Gl H) (K : Nat) (s1 : List UInt8) (limit2 : Int)
    (hS : St w H [] F) (hm : (mortiselaw07_InflateReads.m K s1 limit2).wp kr kp)
    (hret : ∀ (x3080 : Bool) (w : World), kr x3080 → St w H [] F → R (.returned (.bool x3080)) w) :
    Calls Tryd.prog 3 ⟨[str s1, .int .i64 limit2]⟩ w R := by
  refine enter Tryd.func3 rfl Tryd.ntmps3 rfl hS fun a w hS => ?_
  have hM := hm; clear hm
  rw [mortiselaw07_InflateReads.m] at hM
  refine wp_seq ?_
  refine wp_region_list ?_
  refine st1 hS (asg rfl) rfl fun a w hS => ?_
  refine wpList_nil ?_
  refine then_n ?_
  refine wp_seq ?_
  refine wp_seq ?_
  refine wp_region_list ?_
  refine st1 hS (mv rfl) rfl fun a w hS => ?_
  refine st1 hS (lenS rfl Tryd.runUnderlying9) rfl fun a w hS => ?_
  refine st1 hS (bin rfl rfl rfl) rfl fun a w hS => ?_
  refine st1 hS (mv rfl) rfl fun a w hS => ?_
  refine g_op 2 false 14 (b := (decide ((s1.length : Int) > (3000 : Int)))) (r := (decide (limit2 > (40000 : Int)))) hS rfl rfl rfl rfl rfl rfl rfl (fun hb a w hS K hK => ?_) rfl fun a w hS => ?_
  · refine st1g hS rfl rfl rfl hb (mv rfl) rfl fun a w hS => ?_
    refine st1g hS rfl rfl rfl hb (bin rfl rfl rfl) rfl fun a w hS => ?_
    exact wpList_nil (hK _ _ (hS.up 2 rfl rfl))
  refine wpList_nil ?_
  refine then_n ?_
  refine s_cond hS rfl hM (fun hb3 hM => ?_) (fun hb3 hM => ?_)
  · refine wp_seq ?_
    refine wp_region_list ?_
    refine s_call hS rfl Tryd.call9 (mortiselaw07_live_c hG K  (hS.st.part 0 [] (by kernel_rfl)) (wp_bind hM) (fun x1499 w hM  hst => s_back hS.ev hst.appF rfl fun hS => ?_))
    replace hS : Ss _ _ _ H [] F _ _ := hS
    refine st1 hS (asg rfl) rfl fun a w hS => ?_
    refine wpList_nil ?_
    refine then_n ?_
    refine wp_ret ?_
    refine then_ret ?_
    exact s_ret (rs := [4]) hS rfl rfl (hret x1499 w hM (hS.st.pick [] (by kernel_rfl)))
  · refine wp_skip ?_
    refine then_n ?_
    refine wp_seq ?_
    refine wp_region_list ?_
    refine st1 hS (mv rfl) rfl fun a w hS => ?_
    refine st1 hS (mv rfl) rfl fun a w hS => ?_
    refine s_call hS rfl Tryd.call10 (inflate_Inflate_c hG K s1 limit2 (hS.st.part 0 [] (by kernel_rfl)) (wp_bind hM) (fun x1500 x1501 x1502 w hM  hst => s_back hS.ev hst.appF rfl fun hS => ?_))
    replace hS : Ss _ _ _ H [] F _ _ := hS
    refine st1 hS (mv rfl) rfl fun a w hS => ?_
    refine st1 hS (ex rfl rfl) rfl fun a w hS => ?_
    refine st1 hS (ex rfl rfl) rfl fun a w hS => ?_
    refine st1 hS (ex rfl rfl) rfl fun a w hS => ?_
    refine st1 hS (asg rfl) rfl fun a w hS => ?_
    refine st1 hS (asg rfl) rfl fun a w hS => ?_
    refine st1 hS (asg rfl) rfl fun a w hS => ?_
    refine wpList_nil ?_
    refine then_n ?_
    refine wp_seq ?_
    refine wp_region_list ?_
    refine st1 hS (mv rfl) rfl fun a w hS => ?_
    refine st1 hS (mv rfl) rfl fun a w hS => ?_
    refine s_call hS rfl Tryd.call11 (mortiseref07_Inflate_c hG K s1 limit2 (hS.st.part 0 [] (by kernel_rfl)) (wp_bind hM) (fun x3073 x3074 x3075 w hM  hst => s_back hS.ev hst.appF rfl fun hS => ?_))
    replace hS : Ss _ _ _ H [] F _ _ := hS
    refine st1 hS (mv rfl) rfl fun a w hS => ?_
    refine st1 hS (ex rfl rfl) rfl fun a w hS => ?_
    refine st1 hS (ex rfl rfl) rfl fun a w hS => ?_
    refine st1 hS (ex rfl rfl) rfl fun a w hS => ?_
    refine st1 hS (asg rfl) rfl fun a w hS => ?_
    refine st1 hS (asg rfl) rfl fun a w hS => ?_
    refine st1 hS (asg rfl) rfl fun a w hS => ?_
    refine wpList_nil ?_
    refine then_n ?_
    refine wp_seq ?_
    refine wp_region_list ?_
    refine st1 hS (mv rfl) rfl fun a w hS => ?_
    refine st1 hS (mv rfl) rfl fun a w hS => ?_
    refine st1 hS (bins rfl rfl rfl) rfl fun a w hS => ?_
    refine st1 hS (mv rfl) rfl fun a w hS => ?_
    refine g_op 3 true 36 (b := (x1500 == x3073)) (r := (x1501 == x3074)) hS rfl rfl rfl rfl rfl rfl rfl (fun hb a w hS K hK => ?_) rfl fun a w hS => ?_
    · refine st1g hS rfl rfl rfl hb (mv rfl) rfl fun a w hS => ?_
      refine st1g hS rfl rfl rfl hb (mv rfl) rfl fun a w hS => ?_
      refine st1g hS rfl rfl rfl hb (bin rfl rfl rfl) rfl fun a w hS => ?_
      exact wpList_nil (hK _ _ (hS.up 3 rfl rfl))
    refine st1 hS (mv rfl) rfl fun a w hS => ?_
    refine g_op 3 true 41 (b := ((x1500 == x3073) && (x1501 == x3074))) (r := (x1502 == x3075)) hS rfl rfl rfl rfl rfl rfl rfl (fun hb a w hS K hK => ?_) rfl fun a w hS => ?_
    · refine st1g hS rfl rfl rfl hb (mv rfl) rfl fun a w hS => ?_
      refine st1g hS rfl rfl rfl hb (mv rfl) rfl fun a w hS => ?_
      refine st1g hS rfl rfl rfl hb (bin rfl rfl rfl) rfl fun a w hS => ?_
      exact wpList_nil (hK _ _ (hS.up 3 rfl rfl))
    refine st1 hS (mv rfl) rfl fun a w hS => ?_
    refine seg_cutJ (fun a w => ∃ (v3078 : Bool), Ss 49 [] [(48, .bool v3078)] H [] F a w ∧ (mortiselaw07_InflateReads.j1 K v3078).wp kr kp) 2 (fun J3079 hJ3079 => ?_) ?_
    · refine ifB (b := (((x1500 == x3073) && (x1501 == x3074)) && (x1502 == x3075))) hM (fun hb3076 hM => ?_) (fun hb3076 hM => ?_)
      · replace hS := hS.re 45 (v := .bool true) rfl (congrArg Value.bool hb3076)
        replace hS := hS.re 46 (v := .bool true) rfl (congrArg Value.bool hb3076)
        refine unguard hS rfl rfl rfl rfl ?_
        refine s_call hS rfl Tryd.call9 (mortiselaw07_live_c hG K  (hS.st.part 0 [] (by kernel_rfl)) (wp_bind hM) (fun x3077 w hM  hst => s_back hS.ev hst.appF rfl fun hS => ?_))
        replace hS : Ss _ _ _ H [] F _ _ := hS
        refine st1 hS (pk rfl rfl rfl) rfl fun a w hS => ?_
        refine wpList_nil ?_
        refine then_n ?_
        exact hJ3079 _ _ ⟨x3077, hS.to [] (by kernel_rfl) ⟨rfl, trivial⟩, hM⟩
      · replace hS := hS.re 45 (v := .bool false) rfl (congrArg Value.bool hb3076)
        replace hS := hS.re 46 (v := .bool false) rfl (congrArg Value.bool hb3076)
        refine skips 1 hS rfl fun a w hS => ?_
        refine st1 hS (pk rfl rfl rfl) rfl fun a w hS => ?_
        refine wpList_nil ?_
        refine then_n ?_
        exact hJ3079 _ _ ⟨false, hS.to [] (by kernel_rfl) ⟨rfl, trivial⟩, hM⟩
    · intro a w hI
      obtain ⟨v3078, hS, hM⟩ := hI
      rw [mortiselaw07_InflateReads.j1] at hM
      refine st1 hS (asg rfl) rfl fun a w hS => ?_
      refine wpList_nil ?_
      refine then_n ?_
      refine wp_ret ?_
      exact s_ret (rs := [4]) hS rfl rfl (hret v3078 w hM (hS.st.pick [] (by kernel_rfl)))
end Go.TrydS
