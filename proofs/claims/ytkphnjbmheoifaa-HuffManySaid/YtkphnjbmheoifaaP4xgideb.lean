/- Printed by a program of mine: each Go function answers what its model answers; conditions: what each theorem asks of memory. -/
import Derived.Test.YtkphnjbmheoifaaP3xgodoe
set_option linter.unusedVariables false
set_option linter.unusedSimpArgs false
set_option maxRecDepth 100000
namespace Go.TryS
open Go Go.Sl Go.Mo Go.Proofs
attribute [local irreducible] Res.wp
theorem bits_Writer_Put_c {H : Imm} {F : List Frag} {w : World} {R : Ending → World → Prop} {kr : (Int × Int × (List Int)) → Prop} {kp : Value → Prop} (hG : Gl H) (K : Nat) (w_5559 : T_bits_Writer) (v5567 : Int) (n_5568 : Int) (b5560 : Nat) (f5561 : Frag) (A5563 : Option Addr) (c5564 : Nat) (f5565 : Frag) (hB5562 : Blk f5561 b5560 ([.int .i64 w_5559.place_.at_, .slice A5563 w_5559.bytes_.length c5564]) 51) (hV5566 : Vec 5 (ci .u8) 1 A5563 w_5559.bytes_ c5564 f5565)
    (hS : St w H [f5561, f5565] F) (hm : (bits_Writer_Put.m K w_5559 v5567 n_5568).wp kr kp)
    (hret : ∀ (x5674 : Int) (at_5675 : Int) (A5676 : Option Addr) (c5677 : Nat) (bytes5678 : (List Int)) (f5679 : Frag) (f5681 : Frag) (w : World), kr (x5674, at_5675, bytes5678) → (Vec 5 (ci .u8) 1 A5676 bytes5678 c5677 f5679) → (Blk f5681 b5560 ([.int .i64 at_5675, .slice A5676 bytes5678.length c5677]) 51) → St w H [f5681, f5679] F → R (.returned (.int .i64 x5674)) w) :
    Calls Try.prog 23 ⟨[ptr b5560 0, .int .u32 v5567, .int .i64 n_5568]⟩ w R := by
 refine enter Try.func23 rfl Try.ntmps23 rfl hS fun a w hS => ?_
 have hM := hm; clear hm
 rw [bits_Writer_Put.m] at hM
 refine wp_seq <| wp_region_list <| st1 hS (asg rfl) rfl fun a w hS => wpList_nil <| then_n <| wp_seq <| wp_seq <| wp_region_list <| st1 hS (mv rfl) rfl fun a w hS => st1 hS (eqNil rfl rfl Try.runUnderlying76) rfl fun a w hS => st1 hS (mv rfl) rfl fun a w hS => st1g hS rfl rfl rfl rfl (mv rfl) rfl fun a w hS => st1g hS rfl rfl rfl rfl (bin rfl rfl rfl) rfl fun a w hS => st1 hS (pk rfl rfl rfl) rfl fun a w hS => st1 hS (mv rfl) rfl fun a w hS => g_op 2 false 14 (b := (decide (n_5568 < (0 : Int)))) (r := (decide (n_5568 > (32 : Int)))) hS rfl rfl rfl rfl rfl rfl rfl (fun hb a w hS K hK => ?_) rfl fun a w hS => ?_
 ·refine st1g hS rfl rfl rfl hb (mv rfl) rfl fun a w hS => ?_
  refine st1g hS rfl rfl rfl hb (bin rfl rfl rfl) rfl fun a w hS => ?_
  exact wpList_nil (hK _ _ (hS.up 2 rfl rfl))
 refine st1 hS (mv rfl) rfl fun a w hS => ?_
 obtain ⟨hk5571, hM⟩ := wp_chk hM
 refine g_op 5 false 18 (b := ((decide (n_5568 < (0 : Int))) || (decide (n_5568 > (32 : Int))))) (r := (decide ((ishr .u64 (wr .u64 v5567) n_5568) > (0 : Int)))) hS rfl rfl rfl rfl rfl rfl rfl (fun hb a w hS K hK => ?_) rfl fun a w hS => ?_
 ·refine st1g hS rfl rfl rfl hb (mv rfl) rfl fun a w hS => ?_
  refine st1g hS rfl rfl rfl hb (cvi rfl Try.runUnderlying53 Try.runUnderlying77) rfl fun a w hS => st1g hS rfl rfl rfl hb (mv rfl) rfl fun a w hS => ?_
  have hk5570 := imp_of hk5571 hb
  refine st1g hS rfl rfl rfl hb (shr rfl rfl hk5570) rfl fun a w hS => st1g hS rfl rfl rfl hb (bin rfl rfl rfl) rfl fun a w hS => ?_
  exact wpList_nil (hK _ _ (hS.up 5 rfl rfl))
 refine wpList_nil <| then_n <| s_cond hS rfl hM (fun hb5572 hM => ?_) (fun hb5572 hM => ?_)
 ·refine wp_seq ?_
  refine wp_region_list <| st1 hS (asg rfl) rfl fun a w hS => wpList_nil <| then_n <| wp_ret <| then_ret ?_
  exact s_ret (rs := [6]) hS rfl rfl (hret (1 : Int) w_5559.place_.at_ A5563 c5564 w_5559.bytes_ f5565 f5561 w (wp_ok hM) hV5566 hB5562 (hS.st.pick [0, 1] (by kernel_rfl)))
 ·refine wp_skip ?_
  refine then_n <| wp_seq <| wp_block <| s_loopJ (fun k5634 a w => ∃ (at_5624 : Int) (A5625 : Option Addr) (c5626 : Nat) (bytes5627 : (List Int)) (f5628 : Frag) (f5630 : Frag) (v5632 : Int) (n_5633 : Int), Ss 95 [] [(0, ptr b5560 0), (1, .int .u32 v5632), (2, .int .i64 n_5633)] H [f5630, f5628] F a w ∧ (Vec 5 (ci .u8) 1 A5625 bytes5627 c5626 f5628) ∧ (Blk f5630 b5560 ([.int .i64 at_5624, .slice A5625 bytes5627.length c5626]) 51) ∧ (bits_Writer_Put.l1 K k5634 at_5624 bytes5627 v5632 n_5633).wp kr kp) K ?_ ?_ ?_
  ·exact ⟨w_5559.place_.at_, A5563, c5564, w_5559.bytes_, f5565, f5561, v5567, n_5568, hS.to [0, 1] (by kernel_rfl) ⟨rfl, rfl, rfl, trivial⟩, hV5566, hB5562, hM⟩
  ·intro a w hI; obtain ⟨_, _, _, _, _, _, _, _, _, _, _, hM⟩ := hI; exact wp_fail hM
  ·intro k5634 a w hI J5673 hJ5673
   obtain ⟨at_5624, A5625, c5626, bytes5627, f5628, f5630, v5632, n_5633, hS, hV5629, hB5631, hM⟩ := hI
   rw [bits_Writer_Put.l1] at hM
   refine wp_seq <| wp_seq <| wp_region_list <| st1 hS (mv rfl) rfl fun a w hS => st1 hS (bin rfl rfl rfl) rfl fun a w hS => wpList_nil <| then_n <| s_cond hS rfl hM (fun hb5635 hM => ?_) (fun hb5635 hM => ?_)
   ·refine wp_skip ?_
    refine then_n <| wp_block <| seq_joinJ (fun a w => ∃ (A5649 : Option Addr) (c5650 : Nat) (bytes5651 : (List Int)) (f5652 : Frag) (f5654 : Frag), Ss 95 [] [(0, ptr b5560 0), (1, .int .u32 v5632), (2, .int .i64 n_5633)] H [f5654, f5652] F a w ∧ (Vec 5 (ci .u8) 1 A5649 bytes5651 c5650 f5652) ∧ (Blk f5654 b5560 ([.int .i64 at_5624, .slice A5649 bytes5651.length c5650]) 51) ∧ (bits_Writer_Put.j2 K (bits_Writer_Put.l1 K k5634) at_5624 v5632 n_5633 bytes5651).wp kr kp) (fun J5656 hJ5656 => ?_) ?_
    ·refine wp_seq ?_
     refine wp_region_list <| st1 hS (mv rfl) rfl fun a w hS => st1 hS (nck rfl) rfl fun a w hS => st1 hS (fad rfl Try.runUnderlying51 rfl Try.sizeOf48 rfl) rfl fun a w hS => st1 hS (fad rfl Try.runUnderlying48 rfl Try.sizeOf3 rfl) rfl fun a w hS => st1 hS (ldb 0 rfl hB5631 rfl rfl Try.isAgg3) rfl fun a w hS => st1 hS (bin rfl rfl rfl) rfl fun a w hS => st1 hS (bin rfl rfl rfl) rfl fun a w hS => wpList_nil <| then_n <| s_cond hS rfl hM (fun hb5636 hM => ?_) (fun hb5636 hM => ?_)
     ·refine wp_region_list ?_
      refine st1 hS (mv rfl) rfl fun a w hS => st1 hS (mv rfl) rfl fun a w hS => st1 hS (nck rfl) rfl fun a w hS => st1 hS (fad rfl Try.runUnderlying51 rfl Try.sizeOf49 rfl) rfl fun a w hS => st1 hS (ldb 0 rfl hB5631 rfl rfl Try.isAgg49) rfl fun a w hS => bsl (g := (ci .u8)) ([(0 : Int)] : List Int) [.int .u8 (0 : Int)] hS Try.runUnderlying49 Try.sizeOf5 X.el5 rfl rfl rfl (by simp [Value.cells]) rfl rfl rfl rfl rfl fun w A5637 c5638 f5639 hV5640 hS => ?_
      obtain ⟨hk5641, hM⟩ := wp_chk hM
      refine apV (ys := ([(0 : Int)] : List Int)) 2 hS rfl rfl hV5629 rfl (hV5640.rd (i := 0) rfl) Try.runUnderlying49 Try.runUnderlying49 X.el5 (fun _ => rfl) rfl one_t5 hk5641 rfl fun zs5646 w A5642 c5643 f5644 hz hV5645 hS => ?_
      have hM := lt_to hz hM; clear hz
      refine st1 hS (nck rfl) rfl fun a w hS => st1 hS (fad rfl Try.runUnderlying51 rfl Try.sizeOf49 rfl) rfl fun a w hS => sto 1 ([.int .i64 at_5624, .slice A5642 zs5646.length c5643]) hS rfl rfl hB5631 rfl rfl rfl rfl Try.sizeOf49 fun w f5647 hB5648 hS => wpList_nil <| then_n ?_
      exact hJ5656 _ _ ⟨A5642, c5643, zs5646, f5644, f5647, hS.to [1, 2] (by kernel_rfl) ⟨rfl, rfl, rfl, trivial⟩, hV5645, hB5648, hM⟩
     ·refine wp_skip ?_
      refine then_n ?_
      exact hJ5656 _ _ ⟨A5625, c5626, bytes5627, f5628, f5630, hS.to [0, 1] (by kernel_rfl) ⟨rfl, rfl, rfl, trivial⟩, hV5629, hB5631, hM⟩
    ·intro a w hI
     obtain ⟨A5649, c5650, bytes5651, f5652, f5654, hS, hV5653, hB5655, hM⟩ := hI
     rw [bits_Writer_Put.j2] at hM
     refine wp_seq <| wp_region_list <| st1 hS (mv rfl) rfl fun a w hS => st1 hS (nck rfl) rfl fun a w hS => st1 hS (fad rfl Try.runUnderlying51 rfl Try.sizeOf48 rfl) rfl fun a w hS => st1 hS (fad rfl Try.runUnderlying48 rfl Try.sizeOf3 rfl) rfl fun a w hS => st1 hS (ldb 0 rfl hB5655 rfl rfl Try.isAgg3) rfl fun a w hS => st1 hS (bin rfl rfl rfl) rfl fun a w hS => st1 hS (bin rfl rfl rfl) rfl fun a w hS => st1 hS (mv rfl) rfl fun a w hS => st1 hS (minI rfl rfl) rfl fun a w hS => st1x (v := Value.int .i64) (x0 := (if n_5633 < (w64 ((8 : Int) - (iand .i64 at_5624 (7 : Int)))) then n_5633 else (w64 ((8 : Int) - (iand .i64 at_5624 (7 : Int)))))) hS (asg rfl) rfl fun room5657 a w hz hS => ?_
     have hM := lt_to hz hM; clear hz
     refine wpList_nil <| then_n <| wp_seq ?_
     obtain ⟨hk5659, hM⟩ := wp_chk hM
     obtain ⟨hk5661, hM⟩ := wp_chk hM
     obtain ⟨hk5663, hM⟩ := wp_chk hM
     refine draw_begin (vals := [some (ptr b5560 0), some (ptr b5560 0), some (ptr b5560 1), some (.slice A5649 bytes5651.length c5650), some (ptr b5560 0), some (ptr b5560 0), some (ptr b5560 0), some (ptr b5560 0), some (.int .i64 at_5624), some (.int .i64 (iquo .i64 at_5624 (8 : Int))), some (slp A5649 (Int.toNat (iquo .i64 at_5624 (8 : Int)) * 1)), some (.int .u8 (rd bytes5651 (iquo .i64 at_5624 (8 : Int)))), some (.int .u32 v5632), some (.int .i64 room5657), some (.int .u32 (ishl .u32 (1 : Int) room5657)), some (.int .u32 (wr .u32 ((ishl .u32 (1 : Int) room5657) - (1 : Int)))), some (.int .u32 (iand .u32 v5632 (wr .u32 ((ishl .u32 (1 : Int) room5657) - (1 : Int))))), some (.int .u8 (wr .u8 (iand .u32 v5632 (wr .u32 ((ishl .u32 (1 : Int) room5657) - (1 : Int)))))), some (ptr b5560 0), some (ptr b5560 0), some (ptr b5560 0), some (ptr b5560 0), some (.int .i64 at_5624), some (.int .i64 (iand .i64 at_5624 (7 : Int))), some (.int .u8 (ishl .u8 (wr .u8 (iand .u32 v5632 (wr .u32 ((ishl .u32 (1 : Int) room5657) - (1 : Int))))) (iand .i64 at_5624 (7 : Int)))), some (.int .u8 (ior .u8 (rd bytes5651 (iquo .i64 at_5624 (8 : Int))) (ishl .u8 (wr .u8 (iand .u32 v5632 (wr .u32 ((ishl .u32 (1 : Int) room5657) - (1 : Int))))) (iand .i64 at_5624 (7 : Int))))), some (slp A5649 (Int.toNat (iquo .i64 at_5624 (8 : Int)) * 1)), none]) hS mixed rfl ?_
     intro l w ho hcl hA hst
     refine phq hA hst ho hcl navail nmust 27 [0, 1, 2, 3, 4, 5, 6, 7, 8, 9, 10, 11, 12, 13, 14, 15, 16, 17, 18, 19, 20, 21, 22, 23, 24, 25, 26] rfl rfl rfl rfl rfl (by exact ⟨nR rfl rfl rfl rfl rfl (by exact ovE (mv rfl) rfl), nR rfl rfl rfl rfl rfl (by exact ovE (nck rfl) rfl), nR rfl rfl rfl rfl rfl (by exact ovE (fad rfl Try.runUnderlying51 rfl Try.sizeOf49 rfl) rfl), nR rfl rfl rfl rfl rfl (by exact ovE (ldb 0 rfl hB5655 rfl rfl Try.isAgg49) rfl), nR rfl rfl rfl rfl rfl (by exact ovE (mv rfl) rfl), nR rfl rfl rfl rfl rfl (by exact ovE (nck rfl) rfl), nR rfl rfl rfl rfl rfl (by exact ovE (fad rfl Try.runUnderlying51 rfl Try.sizeOf48 rfl) rfl), nR rfl rfl rfl rfl rfl (by exact ovE (fad rfl Try.runUnderlying48 rfl Try.sizeOf3 rfl) rfl), nR rfl rfl rfl rfl rfl (by exact ovE (ldb 0 rfl hB5655 rfl rfl Try.isAgg3) rfl), nR rfl rfl rfl rfl rfl (by exact ovE (quo rfl rfl rfl) rfl), nR rfl rfl rfl rfl rfl (by exact ovE (ixV rfl rfl Try.runUnderlying49 Try.sizeOf5 (hV5653.rd (i := 1) rfl) (fun _ => rfl) rfl hk5659) rfl), nR rfl rfl rfl rfl rfl (by exact ovE (ldV0 rfl (hV5653.rd (i := 1) rfl) (fun _ => rfl) hk5659 rfl Try.isAgg5) rfl), nR rfl rfl rfl rfl rfl (by exact ovE (mv rfl) rfl), nR rfl rfl rfl rfl rfl (by exact ovE (mv rfl) rfl), nR rfl rfl rfl rfl rfl (by exact ovE (shl rfl rfl hk5661) rfl), nR rfl rfl rfl rfl rfl (by exact ovE (bin rfl rfl rfl) rfl), nR rfl rfl rfl rfl rfl (by exact ovE (bin rfl rfl rfl) rfl), nR rfl rfl rfl rfl rfl (by exact ovE (cvi rfl Try.runUnderlying53 Try.runUnderlying5) rfl), nR rfl rfl rfl rfl rfl (by exact ovE (mv rfl) rfl), nR rfl rfl rfl rfl rfl (by exact ovE (nck rfl) rfl), nR rfl rfl rfl rfl rfl (by exact ovE (fad rfl Try.runUnderlying51 rfl Try.sizeOf48 rfl) rfl), nR rfl rfl rfl rfl rfl (by exact ovE (fad rfl Try.runUnderlying48 rfl Try.sizeOf3 rfl) rfl), nR rfl rfl rfl rfl rfl (by exact ovE (ldb 0 rfl hB5655 rfl rfl Try.isAgg3) rfl), nR rfl rfl rfl rfl rfl (by exact ovE (bin rfl rfl rfl) rfl), nR rfl rfl rfl rfl rfl (by exact ovE (shl rfl rfl hk5663) rfl), nR rfl rfl rfl rfl rfl (by exact ovE (bin rfl rfl rfl) rfl), nR rfl rfl rfl rfl rfl (by exact ovE (ixV rfl rfl Try.runUnderlying49 Try.sizeOf5 (hV5653.rd (i := 1) rfl) (fun _ => rfl) rfl hk5659) rfl), trivial⟩) fun D l a w ho hcl hav hpre hm hE hk hA hst => ?_
     have hS := (Ss.mk hE hst).env2 (e' := [(77, .int .u8 (ior .u8 (rd bytes5651 (iquo .i64 at_5624 (8 : Int))) (ishl .u8 (wr .u8 (iand .u32 v5632 (wr .u32 ((ishl .u32 (1 : Int) room5657) - (1 : Int))))) (iand .i64 at_5624 (7 : Int))))), (78, slp A5649 (Int.toNat (iquo .i64 at_5624 (8 : Int)) * 1))]) ⟨rfl, rfl, trivial⟩
     refine op_of_nth rfl <| stV (i := (iquo .i64 at_5624 (8 : Int))) (sz := 1) 1 0 ((ior .u8 (rd bytes5651 (iquo .i64 at_5624 (8 : Int))) (ishl .u8 (wr .u8 (iand .u32 v5632 (wr .u32 ((ishl .u32 (1 : Int) room5657) - (1 : Int))))) (iand .i64 at_5624 (7 : Int))))) hS rfl rfl hV5653 rfl Try.sizeOf5 (one_t5 (ior .u8 (rd bytes5651 (iquo .i64 at_5624 (8 : Int))) (ishl .u8 (wr .u8 (iand .u32 v5632 (wr .u32 ((ishl .u32 (1 : Int) room5657) - (1 : Int))))) (iand .i64 at_5624 (7 : Int))))) (fun _ => rfl) hk5659 rfl rfl fun zs5666 w f5664 hz hz5667 hV5665 hS => ?_
     have hM := lt_to hz hM; clear hz
     have hB5668 : Blk f5654 b5560 ([.int .i64 at_5624, .slice A5649 zs5666.length c5650]) 51 := by rw [hz5667]; exact hB5655
     refine wpList_nil (then_n ?_)
     replace hst := hS.st
     obtain ⟨hcl, hmust, hav2, hA⟩ := dnN (vals' := [some (ptr b5560 0), some (ptr b5560 0), some (ptr b5560 1), some (.slice A5649 bytes5651.length c5650), some (ptr b5560 0), some (ptr b5560 0), some (ptr b5560 0), some (ptr b5560 0), some (.int .i64 at_5624), some (.int .i64 (iquo .i64 at_5624 (8 : Int))), some (slp A5649 (Int.toNat (iquo .i64 at_5624 (8 : Int)) * 1)), some (.int .u8 (rd bytes5651 (iquo .i64 at_5624 (8 : Int)))), some (.int .u32 v5632), some (.int .i64 room5657), some (.int .u32 (ishl .u32 (1 : Int) room5657)), some (.int .u32 (wr .u32 ((ishl .u32 (1 : Int) room5657) - (1 : Int)))), some (.int .u32 (iand .u32 v5632 (wr .u32 ((ishl .u32 (1 : Int) room5657) - (1 : Int))))), some (.int .u8 (wr .u8 (iand .u32 v5632 (wr .u32 ((ishl .u32 (1 : Int) room5657) - (1 : Int)))))), some (ptr b5560 0), some (ptr b5560 0), some (ptr b5560 0), some (ptr b5560 0), some (.int .i64 at_5624), some (.int .i64 (iand .i64 at_5624 (7 : Int))), some (.int .u8 (ishl .u8 (wr .u8 (iand .u32 v5632 (wr .u32 ((ishl .u32 (1 : Int) room5657) - (1 : Int))))) (iand .i64 at_5624 (7 : Int)))), some (.int .u8 (ior .u8 (rd bytes5651 (iquo .i64 at_5624 (8 : Int))) (ishl .u8 (wr .u8 (iand .u32 v5632 (wr .u32 ((ishl .u32 (1 : Int) room5657) - (1 : Int))))) (iand .i64 at_5624 (7 : Int))))), some (slp A5649 (Int.toNat (iquo .i64 at_5624 (8 : Int)) * 1)), some undef]) 27 [(0, 27), (1, 27), (2, 27), (3, 27), (4, 27), (5, 27), (6, 27), (7, 27), (8, 27), (9, 27), (10, 27), (11, 27), (12, 27), (13, 27), (14, 27), (15, 27), (16, 27), (17, 27), (18, 27), (19, 27), (20, 27), (21, 27), (22, 27), (23, 27), (24, 27), (25, 27), (26, 27)] hA hcl hav hm hpre rfl rfl rfl rfl rfl
     clear hm hav
     refine phqE hA hst ho hcl hmust [] rfl rfl rfl trivial fun a w hS => ?_
     replace hS := hS.env2 (e' := [(0, ptr b5560 0), (1, .int .u32 v5632), (2, .int .i64 n_5633), (7, .int .i64 room5657)]) ⟨rfl, rfl, rfl, rfl, trivial⟩
     refine then_n <| wp_seq <| wp_region_list <| st1 hS (mv rfl) rfl fun a w hS => st1 hS (mv rfl) rfl fun a w hS => st1 hS (shr rfl rfl hk5661) rfl fun a w hS => st1x (v := Value.int .u32) (x0 := (ishr .u32 v5632 room5657)) hS (asg rfl) rfl fun v5669 a w hz hS => ?_
     have hM := lt_to hz hM; clear hz
     refine wpList_nil <| then_n <| wp_seq <| wp_region_list <| st1 hS (mv rfl) rfl fun a w hS => st1 hS (nck rfl) rfl fun a w hS => st1 hS (fad rfl Try.runUnderlying51 rfl Try.sizeOf48 rfl) rfl fun a w hS => st1 hS (fad rfl Try.runUnderlying48 rfl Try.sizeOf3 rfl) rfl fun a w hS => st1 hS (ldb 0 rfl hB5668 rfl rfl Try.isAgg3) rfl fun a w hS => st1 hS (mv rfl) rfl fun a w hS => st1 hS (bin rfl rfl rfl) rfl fun a w hS => st1 hS (nck rfl) rfl fun a w hS => st1 hS (fad rfl Try.runUnderlying51 rfl Try.sizeOf48 rfl) rfl fun a w hS => st1 hS (fad rfl Try.runUnderlying48 rfl Try.sizeOf3 rfl) rfl fun a w hS => sto 0 ([.int .i64 (w64 (at_5624 + room5657)), .slice A5649 zs5666.length c5650]) hS rfl rfl hB5668 rfl rfl rfl rfl Try.sizeOf3 fun w f5670 hB5671 hS => wpList_nil <| then_n <| wp_region_list <| st1 hS (mv rfl) rfl fun a w hS => st1 hS (mv rfl) rfl fun a w hS => st1 hS (bin rfl rfl rfl) rfl fun a w hS => st1x (v := Value.int .i64) (x0 := (w64 (n_5633 - room5657))) hS (asg rfl) rfl fun n_5672 a w hz hS => ?_
     have hM := lt_to hz hM; clear hz
     refine wpList_nil <| blk_n (then_n ?_)
     exact hJ5673 _ _ ⟨(w64 (at_5624 + room5657)), A5649, c5650, zs5666, f5664, f5670, v5669, n_5672, hS.to [0, 1] (by kernel_rfl) ⟨rfl, rfl, rfl, trivial⟩, hV5665, hB5671, hM⟩
   ·refine wp_exit ?_
    refine then_ex (then_ex (blk_same (then_n ?_)))
    refine wp_seq <| wp_region_list <| st1 hS (asg rfl) rfl fun a w hS => wpList_nil <| then_n <| wp_ret ?_
    exact s_ret (rs := [6]) hS rfl rfl (hret (0 : Int) at_5624 A5625 c5626 bytes5627 f5628 f5630 w (wp_ok hM) hV5629 hB5631 (hS.st.pick [0, 1] (by kernel_rfl)))

theorem bits_Writer_String_c {H : Imm} {F : List Frag} {w : World} {R : Ending → World → Prop} {kr : (List UInt8) → Prop} {kp : Value → Prop} (hG : Gl H) (K : Nat) (w_5868 : T_bits_Writer) (b5869 : Nat) (f5870 : Frag) (A5872 : Option Addr) (c5873 : Nat) (f5874 : Frag) (hB5871 : Blk f5870 b5869 ([.int .i64 w_5868.place_.at_, .slice A5872 w_5868.bytes_.length c5873]) 51) (hV5875 : Vec 5 (ci .u8) 1 A5872 w_5868.bytes_ c5873 f5874)
    (hS : St w H [f5870, f5874] F) (hm : (bits_Writer_String.m K w_5868).wp kr kp)
    (hret : ∀ (x5877 : List UInt8) (w : World), kr x5877 → St w H [f5870, f5874] F → R (.returned (str x5877)) w) :
    Calls Try.prog 24 ⟨[ptr b5869 0]⟩ w R := by
 refine enter Try.func24 rfl Try.ntmps24 rfl hS fun a w hS => ?_
 have hM := hm; clear hm
 rw [bits_Writer_String.m] at hM
 refine wp_seq <| wp_region_list <| st1 hS (asg rfl) rfl fun a w hS => wpList_nil <| then_n <| wp_seq <| wp_seq <| wp_region_list <| st1 hS (mv rfl) rfl fun a w hS => st1 hS (eqNil rfl rfl Try.runUnderlying76) rfl fun a w hS => wpList_nil <| then_n <| s_condF hS rfl <| wp_skip <| then_n <| wp_seq <| wp_region_list <| st1 hS (mv rfl) rfl fun a w hS => st1 hS (nck rfl) rfl fun a w hS => st1 hS (fad rfl Try.runUnderlying51 rfl Try.sizeOf49 rfl) rfl fun a w hS => st1 hS (ldb 0 rfl hB5871 rfl rfl Try.isAgg49) rfl fun a w hS => st1 hS (cbs rfl Try.runUnderlying49 Try.runUnderlying5 Try.runUnderlying9 (hV5875.rd (i := 1) rfl)) rfl fun a w hS => st1x (v := str) (x0 := (w_5868.bytes_.map tob)) hS (asg rfl) rfl fun v5876 a w hz hS => ?_
 have hM := lt_to hz hM; clear hz
 refine wpList_nil <| then_n <| wp_ret ?_
 exact s_ret (rs := [2]) hS rfl rfl (hret v5876 w (wp_ok hM) (hS.st.pick [0, 1] (by kernel_rfl)))

theorem bits_Writer_Len_c {H : Imm} {F : List Frag} {w : World} {R : Ending → World → Prop} {kr : Unit → Prop} {kp : Value → Prop} (hG : Gl H) (K : Nat) (w_5920 : T_bits_Writer) (b5921 : Nat) (f5922 : Frag) (A5924 : Option Addr) (c5925 : Nat) (f5926 : Frag) (hB5923 : Blk f5922 b5921 ([.int .i64 w_5920.place_.at_, .slice A5924 w_5920.bytes_.length c5925]) 51) (hV5927 : Vec 5 (ci .u8) 1 A5924 w_5920.bytes_ c5925 f5926)
    (hS : St w H [f5922, f5926] F) (hm : (bits_Writer_Len.m K w_5920).wp kr kp)
    (hret : ∀ (w : World), kr () → St w H [f5922, f5926] F → R (.returned (.int .i64 w_5920.place_.at_)) w) :
    Calls Try.prog 25 ⟨[ptr b5921 0]⟩ w R := by
 refine enter Try.func25 rfl Try.ntmps25 rfl hS fun a w hS => ?_
 have hM := hm; clear hm
 rw [bits_Writer_Len.m] at hM
 refine wp_seq <| wp_region_list <| st1 hS (asg rfl) rfl fun a w hS => wpList_nil <| then_n <| wp_seq <| wp_seq <| wp_region_list <| st1 hS (mv rfl) rfl fun a w hS => st1 hS (eqNil rfl rfl Try.runUnderlying76) rfl fun a w hS => wpList_nil <| then_n <| s_condF hS rfl <| wp_skip <| then_n <| wp_seq <| wp_region_list <| st1 hS (mv rfl) rfl fun a w hS => st1 hS (nck rfl) rfl fun a w hS => st1 hS (fad rfl Try.runUnderlying51 rfl Try.sizeOf48 rfl) rfl fun a w hS => st1 hS (fad rfl Try.runUnderlying48 rfl Try.sizeOf3 rfl) rfl fun a w hS => st1 hS (ldb 0 rfl hB5923 rfl rfl Try.isAgg3) rfl fun a w hS => st1 hS (asg rfl) rfl fun a w hS => wpList_nil <| then_n <| wp_ret ?_
 exact s_ret (rs := [2]) hS rfl rfl (hret w (wp_ok hM) (hS.st.pick [0, 1] (by kernel_rfl)))

theorem mortiselaw06_HuffBack_c {H : Imm} {F : List Frag} {w : World} {R : Ending → World → Prop} {kr : Bool → Prop} {kp : Value → Prop} (hG : Gl H) (K : Nat) (l_5497 : List Int) (symbols5502 : List Int) (A5498 : Option Addr) (c5499 : Nat) (A5503 : Option Addr) (c5504 : Nat) (hr5500 : Rdl H [] F (ci .i64) A5498 l_5497) (hc5501 : l_5497.length ≤ c5499) (hr5505 : Rdl H [] F (ci .i64) A5503 symbols5502) (hc5506 : symbols5502.length ≤ c5504)
    (hS : St w H [] F) (hm : (mortiselaw06_HuffBack.m K l_5497 symbols5502).wp kr kp)
    (hret : ∀ (x5932 : Bool) (w : World), kr x5932 → St w H [] F → R (.returned (.bool x5932)) w)
    (hpan : ∀ v w, kp v → St w H [] F → R (.panicked [⟨v, false, false⟩]) w) :
    Calls Try.prog 8 ⟨[.slice A5498 l_5497.length c5499, .slice A5503 symbols5502.length c5504]⟩ w R := by
 refine enter Try.func8 rfl Try.ntmps8 rfl hS fun a w hS => ?_
 have hM := hm; clear hm
 rw [mortiselaw06_HuffBack.m] at hM
 refine wp_seq <| wp_region_list <| st1 hS (asg rfl) rfl fun a w hS => wpList_nil <| then_n <| wp_seq <| wp_region_list <| st1 hS (mv rfl) rfl fun a w hS => s_call hS rfl Try.call9 (huff_Codes_c hG K l_5497 A5498 c5499 (hr5500.app _) hc5501 (hS.st.part 0 [] (by kernel_rfl)) (wp_bind hM) (fun A5507 c5508 x5509 f5510 x5511 w hM h5512 hst => s_back hS.ev hst.appF rfl fun hS => ?_))
 replace hS : Ss _ _ _ H [f5510] F _ _ := hS
 refine st1 hS (mv rfl) rfl fun a w hS => st1 hS (ex rfl rfl) rfl fun a w hS => st1 hS (ex rfl rfl) rfl fun a w hS => st1 hS (asg rfl) rfl fun a w hS => st1 hS (asg rfl) rfl fun a w hS => wpList_nil <| then_n <| wp_seq <| wp_region_list <| st1 hS (mv rfl) rfl fun a w hS => s_call hS rfl Try.call15 (huff_New_c hG K l_5497 A5498 c5499 (hr5500.app _) hc5501 (hS.st.part 0 [0] (by kernel_rfl)) (wp_bind hM) (fun A5513 x5514 f5515 x5516 w hM h5517 hst => s_back hS.ev hst.appF rfl fun hS => ?_))
 replace hS : Ss _ _ _ H [f5515, f5510] F _ _ := hS
 refine st1 hS (mv rfl) rfl fun a w hS => st1 hS (ex rfl rfl) rfl fun a w hS => st1 hS (ex rfl rfl) rfl fun a w hS => st1 hS (asg rfl) rfl fun a w hS => st1 hS (asg rfl) rfl fun a w hS => wpList_nil <| then_n <| wp_seq <| wp_seq <| wp_region_list <| st1 hS (mv rfl) rfl fun a w hS => st1 hS (bin rfl rfl rfl) rfl fun a w hS => st1 hS (mv rfl) rfl fun a w hS => g_op 2 false 30 (b := (x5511 != (0 : Int))) (r := (x5516 != (0 : Int))) hS rfl rfl rfl rfl rfl rfl rfl (fun hb a w hS K hK => ?_) rfl fun a w hS => ?_
 ·refine st1g hS rfl rfl rfl hb (mv rfl) rfl fun a w hS => ?_
  refine st1g hS rfl rfl rfl hb (bin rfl rfl rfl) rfl fun a w hS => ?_
  exact wpList_nil (hK _ _ (hS.up 2 rfl rfl))
 refine wpList_nil <| then_n <| s_cond hS rfl hM (fun hb5518 hM => ?_) (fun hb5518 hM => ?_)
 ·refine wp_seq ?_
  refine wp_region_list <| st1 hS (mv rfl) rfl fun a w hS => st1 hS (mv rfl) rfl fun a w hS => st1 hS (bin rfl rfl rfl) rfl fun a w hS => st1 hS (mv rfl) rfl fun a w hS => seg_cutJ (fun a w => ∃ (v5521 : Bool), Ss 134 [] [(39, .bool v5521)] H [] F a w ∧ (mortiselaw06_HuffBack.j1 K v5521).wp kr kp) 2 (fun J5522 hJ5522 => ?_) ?_
  ·refine ifB (b := (x5511 == x5516)) hM (fun hb5519 hM => ?_) (fun hb5519 hM => ?_)
   ·replace hS := hS.re 36 (v := .bool true) rfl (congrArg Value.bool hb5519)
    replace hS := hS.re 37 (v := .bool true) rfl (congrArg Value.bool hb5519)
    refine unguard hS rfl rfl rfl rfl <| s_call hS rfl Try.call14 (mortiselaw06_live_c hG K  (hS.st.part 0 [0, 1] (by kernel_rfl)) (wp_bind hM) (fun x5520 w hM  hst => s_back hS.ev hst.appF rfl fun hS => ?_) (fun v w hk hst => s_pan (then_pan (then_pan (then_pan (⟨hS.ev.defs, hpan _ _ hk hst.appF.frame⟩))))))
    replace hS : Ss _ _ _ H [f5515, f5510] F _ _ := hS
    refine st1 hS (pk rfl rfl rfl) rfl fun a w hS => wpList_nil <| then_n ?_
    exact hJ5522 _ _ ⟨x5520, hS.to [] (by kernel_rfl) ⟨rfl, trivial⟩, hM⟩
   ·replace hS := hS.re 36 (v := .bool false) rfl (congrArg Value.bool hb5519)
    replace hS := hS.re 37 (v := .bool false) rfl (congrArg Value.bool hb5519)
    refine skips 1 hS rfl fun a w hS => st1 hS (pk rfl rfl rfl) rfl fun a w hS => wpList_nil <| then_n ?_
    exact hJ5522 _ _ ⟨false, hS.to [] (by kernel_rfl) ⟨rfl, trivial⟩, hM⟩
  ·intro a w hI
   obtain ⟨v5521, hS, hM⟩ := hI
   rw [mortiselaw06_HuffBack.j1] at hM
   refine st1 hS (asg rfl) rfl fun a w hS => wpList_nil <| then_n <| wp_ret <| then_ret ?_
   exact s_ret (rs := [4]) hS rfl rfl (hret v5521 w (wp_ok hM) (hS.st.pick [] (by kernel_rfl)))
 ·refine wp_skip ?_
  refine then_n <| wp_seq <| wp_seq <| wp_region_list <| st1 hS (mv rfl) rfl fun a w hS => st1 hS (lenV rfl Try.runUnderlying22) rfl fun a w hS => st1 hS (mv rfl) rfl fun a w hS => st1 hS (lenV rfl Try.runUnderlying22) rfl fun a w hS => st1 hS (bin rfl rfl rfl) rfl fun a w hS => st1 hS (mv rfl) rfl fun a w hS => g_op 2 false 45 (b := ((x5509.length : Int) != (l_5497.length : Int))) (r := x5514.isNone) hS rfl rfl rfl rfl rfl rfl rfl (fun hb a w hS K hK => ?_) rfl fun a w hS => ?_
  ·refine st1g hS rfl rfl rfl hb (mv rfl) rfl fun a w hS => ?_
   refine st1g hS rfl rfl rfl hb (eqNilO rfl rfl Try.runUnderlying30 h5517) rfl fun a w hS => ?_
   exact wpList_nil (hK _ _ (hS.up 2 rfl rfl))
  refine wpList_nil <| then_n <| s_cond hS rfl hM (fun hb5523 hM => ?_) (fun hb5523 hM => ?_)
  ·refine wp_seq ?_
   refine wp_region_list <| st1 hS (asg rfl) rfl fun a w hS => wpList_nil <| then_n <| wp_ret <| then_ret ?_
   exact s_ret (rs := [4]) hS rfl rfl (hret false w (wp_ok hM) (hS.st.pick [] (by kernel_rfl)))
  ·obtain ⟨x5524, ho5525, hM⟩ := wp_unw hM
   obtain ⟨b5526, hA, hO5534⟩ := h5517.get ho5525
   obtain ⟨f5527, A5530, c5531, f5532, hF, hB5528, hl5529, hV5533⟩ := hO5534
   subst hA; subst hF
   replace hS := hS.front [0, 1] (by kernel_rfl)
   replace hS := hS.splitF
   refine wp_skip <| then_n <| wp_seq <| wp_region_list <| alc ([.int .i64 (0 : Int), .slice none 0 0]) hS Try.zeroValue51 rfl rfl fun w b5535 f5536 hB5537 hS => ?_
   obtain ⟨f5538, hV5539, hS⟩ := hS.nilV 5 (ci .u8) 1
   refine wpList_nil <| then_n <| wp_seq <| wp_region_list <| st1 hS (asg rfl) rfl fun a w hS => ?_
   obtain ⟨f5540, hV5541, hS⟩ := hS.nilV 3 (ci .i64) 1
   refine wpList_nil <| then_n <| seq_joinJ (fun a w => ∃ (at_5854 : Int) (A5855 : Option Addr) (c5856 : Nat) (bytes5857 : (List Int)) (f5858 : Frag) (f5860 : Frag) (A5862 : Option Addr) (c5863 : Nat) (kept5864 : (List Int)) (f5865 : Frag), Ss 134 [] [(7, ptr b5526 0), (9, ptr b5535 0), (10, .slice A5862 kept5864.length c5863)] H [f5527, f5532, f5860, f5858, f5865] F a w ∧ (Vec 5 (ci .u8) 1 A5855 bytes5857 c5856 f5858) ∧ (Blk f5860 b5535 ([.int .i64 at_5854, .slice A5855 bytes5857.length c5856]) 51) ∧ (Vec 3 (ci .i64) 1 A5862 kept5864 c5863 f5865) ∧ (mortiselaw06_HuffBack.j5 K x5524 at_5854 bytes5857 kept5864).wp kr kp) (fun J5867 hJ5867 => ?_) ?_
   ·refine wp_seq ?_
    refine wp_region_list <| st1 hS (asg rfl) rfl fun a w hS => wpList_nil <| then_n <| wp_block <| s_loopJ (fun k5774 a w => ∃ (at_5760 : Int) (A5761 : Option Addr) (c5762 : Nat) (bytes5763 : (List Int)) (f5764 : Frag) (f5766 : Frag) (A5768 : Option Addr) (c5769 : Nat) (kept5770 : (List Int)) (f5771 : Frag) (i5773 : Int), Ss 134 [] [(0, .slice A5498 l_5497.length c5499), (1, .slice A5503 symbols5502.length c5504), (5, .slice A5507 x5509.length c5508), (7, ptr b5526 0), (9, ptr b5535 0), (10, .slice A5768 kept5770.length c5769), (11, .int .i64 i5773)] H [f5510, f5527, f5532, f5766, f5764, f5771] F a w ∧ (Vec 5 (ci .u8) 1 A5761 bytes5763 c5762 f5764) ∧ (Blk f5766 b5535 ([.int .i64 at_5760, .slice A5761 bytes5763.length c5762]) 51) ∧ (Vec 3 (ci .i64) 1 A5768 kept5770 c5769 f5771) ∧ (mortiselaw06_HuffBack.l2 K l_5497 symbols5502 x5509 x5524 k5774 at_5760 bytes5763 kept5770 i5773).wp kr kp) K ?_ ?_ ?_
    ·exact ⟨(0 : Int), none, 0, ([] : List Int), f5538, f5536, none, 0, ([] : List Int), f5540, (0 : Int), hS.to [5, 3, 4, 2, 1, 0] (by kernel_rfl) ⟨rfl, rfl, rfl, rfl, rfl, rfl, rfl, trivial⟩, hV5539, hB5537, hV5541, hM⟩
    ·intro a w hI; obtain ⟨_, _, _, _, _, _, _, _, _, _, _, _, _, _, _, hM⟩ := hI; exact wp_fail hM
    ·intro k5774 a w hI J5853 hJ5853
     obtain ⟨at_5760, A5761, c5762, bytes5763, f5764, f5766, A5768, c5769, kept5770, f5771, i5773, hS, hV5765, hB5767, hV5772, hM⟩ := hI
     rw [mortiselaw06_HuffBack.l2] at hM
     refine wp_seq <| wp_seq <| wp_region_list <| st1 hS (mv rfl) rfl fun a w hS => st1 hS (mv rfl) rfl fun a w hS => st1 hS (lenV rfl Try.runUnderlying22) rfl fun a w hS => st1 hS (bin rfl rfl rfl) rfl fun a w hS => st1 hS (mv rfl) rfl fun a w hS => g_op 2 true 53 (b := (decide (i5773 < (symbols5502.length : Int)))) (r := (decide (i5773 < (200 : Int)))) hS rfl rfl rfl rfl rfl rfl rfl (fun hb a w hS K hK => ?_) rfl fun a w hS => ?_
     ·refine st1g hS rfl rfl rfl hb (mv rfl) rfl fun a w hS => ?_
      refine st1g hS rfl rfl rfl hb (bin rfl rfl rfl) rfl fun a w hS => ?_
      exact wpList_nil (hK _ _ (hS.up 2 rfl rfl))
     refine wpList_nil <| then_n <| s_cond hS rfl hM (fun hb5775 hM => ?_) (fun hb5775 hM => ?_)
     ·refine wp_skip ?_
      refine then_n <| wp_seq <| wp_block <| wp_seq <| wp_region_list <| st1 hS (mv rfl) rfl fun a w hS => st1 hS (mv rfl) rfl fun a w hS => ?_
      obtain ⟨hk5776, hM⟩ := wp_chk hM
      refine st1 hS (ixV rfl rfl Try.runUnderlying22 Try.sizeOf3 hr5505.wk (fun _ => rfl) rfl hk5776) rfl fun a w hS => st1 hS (ldV0 rfl hr5505.wk (fun _ => rfl) hk5776 rfl Try.isAgg3) rfl fun a w hS => st1x (v := Value.int .i64) (x0 := (rd symbols5502 i5773)) hS (asg rfl) rfl fun k_5777 a w hz hS => ?_
      have hM := lt_to hz hM; clear hz
      refine wpList_nil <| then_n <| wp_seq <| wp_seq <| wp_region_list <| st1 hS (mv rfl) rfl fun a w hS => st1 hS (bin rfl rfl rfl) rfl fun a w hS => st1 hS (mv rfl) rfl fun a w hS => g_op 4 false 65 (b := (decide (k_5777 < (0 : Int)))) (r := (decide (k_5777 ≥ (l_5497.length : Int)))) hS rfl rfl rfl rfl rfl rfl rfl (fun hb a w hS K hK => ?_) rfl fun a w hS => ?_
      ·refine st1g hS rfl rfl rfl hb (mv rfl) rfl fun a w hS => ?_
       refine st1g hS rfl rfl rfl hb (mv rfl) rfl fun a w hS => st1g hS rfl rfl rfl hb (lenV rfl Try.runUnderlying22) rfl fun a w hS => st1g hS rfl rfl rfl hb (bin rfl rfl rfl) rfl fun a w hS => ?_
       exact wpList_nil (hK _ _ (hS.up 4 rfl rfl))
      refine st1 hS (mv rfl) rfl fun a w hS => ?_
      obtain ⟨hk5780, hM⟩ := wp_chk hM
      refine g_op 5 false 71 (b := ((decide (k_5777 < (0 : Int))) || (decide (k_5777 ≥ (l_5497.length : Int))))) (r := ((rd l_5497 k_5777) == (0 : Int))) hS rfl rfl rfl rfl rfl rfl rfl (fun hb a w hS K hK => ?_) rfl fun a w hS => ?_
      ·refine st1g hS rfl rfl rfl hb (mv rfl) rfl fun a w hS => ?_
       refine st1g hS rfl rfl rfl hb (mv rfl) rfl fun a w hS => ?_
       have hk5779 := imp_of hk5780 hb
       refine st1g hS rfl rfl rfl hb (ixV rfl rfl Try.runUnderlying22 Try.sizeOf3 hr5500.wk (fun _ => rfl) rfl hk5779) rfl fun a w hS => st1g hS rfl rfl rfl hb (ldV0 rfl hr5500.wk (fun _ => rfl) hk5779 rfl Try.isAgg3) rfl fun a w hS => st1g hS rfl rfl rfl hb (bin rfl rfl rfl) rfl fun a w hS => ?_
       exact wpList_nil (hK _ _ (hS.up 5 rfl rfl))
      refine wpList_nil <| then_n <| s_cond hS rfl hM (fun hb5781 hM => ?_) (fun hb5781 hM => ?_)
      ·refine wp_exit ?_
       refine then_ex (blk_same (then_n ?_))
       refine wp_region_list <| st1 hS (mv rfl) rfl fun a w hS => st1 hS (bin rfl rfl rfl) rfl fun a w hS => st1x (v := Value.int .i64) (x0 := (w64 (i5773 + (1 : Int)))) hS (asg rfl) rfl fun i5782 a w hz hS => ?_
       have hM := lt_to hz hM; clear hz
       refine wpList_nil <| then_n ?_
       exact hJ5853 _ _ ⟨at_5760, A5761, c5762, bytes5763, f5764, f5766, A5768, c5769, kept5770, f5771, i5782, hS.to [0, 1, 2, 3, 4, 5] (by kernel_rfl) ⟨rfl, rfl, rfl, rfl, rfl, rfl, rfl, trivial⟩, hV5765, hB5767, hV5772, hM⟩
      ·refine wp_skip ?_
       refine then_n <| seq_joinJ (fun a w => ∃ (at_5833 : Int) (A5834 : Option Addr) (c5835 : Nat) (bytes5836 : (List Int)) (f5837 : Frag) (f5839 : Frag), Ss 134 [] [(0, .slice A5498 l_5497.length c5499), (1, .slice A5503 symbols5502.length c5504), (5, .slice A5507 x5509.length c5508), (7, ptr b5526 0), (9, ptr b5535 0), (10, .slice A5768 kept5770.length c5769), (11, .int .i64 i5773), (12, .int .i64 k_5777)] H [f5510, f5527, f5532, f5839, f5837, f5771] F a w ∧ (Vec 5 (ci .u8) 1 A5834 bytes5836 c5835 f5837) ∧ (Blk f5839 b5535 ([.int .i64 at_5833, .slice A5834 bytes5836.length c5835]) 51) ∧ (mortiselaw06_HuffBack.j4 K (mortiselaw06_HuffBack.l2 K l_5497 symbols5502 x5509 x5524 k5774) kept5770 i5773 k_5777 at_5833 bytes5836).wp kr kp) (fun J5841 hJ5841 => ?_) ?_
       ·refine wp_seq ?_
        refine wp_region_list <| st1 hS (mv rfl) rfl fun a w hS => st1 hS (mv rfl) rfl fun a w hS => ?_
        obtain ⟨hk5783, hM⟩ := wp_chk hM
        refine st1 hS (ixV rfl rfl Try.runUnderlying22 Try.sizeOf3 hr5500.wk (fun _ => rfl) rfl hk5783) rfl fun a w hS => st1 hS (ldV0 rfl hr5500.wk (fun _ => rfl) hk5783 rfl Try.isAgg3) rfl fun a w hS => st1 hS (bin rfl rfl rfl) rfl fun a w hS => st1x (v := Value.int .i64) (x0 := (w64 ((rd l_5497 k_5777) - (1 : Int)))) hS (asg rfl) rfl fun b_5784 a w hz hS => ?_
        have hM := lt_to hz hM; clear hz
        refine wpList_nil <| then_n <| wp_block <| s_loopJ (fun k5818 a w => ∃ (at_5809 : Int) (A5810 : Option Addr) (c5811 : Nat) (bytes5812 : (List Int)) (f5813 : Frag) (f5815 : Frag) (b_5817 : Int), Ss 134 [] [(0, .slice A5498 l_5497.length c5499), (1, .slice A5503 symbols5502.length c5504), (5, .slice A5507 x5509.length c5508), (7, ptr b5526 0), (9, ptr b5535 0), (10, .slice A5768 kept5770.length c5769), (11, .int .i64 i5773), (12, .int .i64 k_5777), (13, .int .i64 b_5817)] H [f5510, f5527, f5532, f5815, f5813, f5771] F a w ∧ (Vec 5 (ci .u8) 1 A5810 bytes5812 c5811 f5813) ∧ (Blk f5815 b5535 ([.int .i64 at_5809, .slice A5810 bytes5812.length c5811]) 51) ∧ (mortiselaw06_HuffBack.l3 K (mortiselaw06_HuffBack.l2 K l_5497 symbols5502 x5509 x5524 k5774) x5509 kept5770 i5773 k_5777 k5818 at_5809 bytes5812 b_5817).wp kr kp) K ?_ ?_ ?_
        ·exact ⟨at_5760, A5761, c5762, bytes5763, f5764, f5766, b_5784, hS.to [0, 1, 2, 3, 4, 5] (by kernel_rfl) ⟨rfl, rfl, rfl, rfl, rfl, rfl, rfl, rfl, rfl, trivial⟩, hV5765, hB5767, hM⟩
        ·intro a w hI; obtain ⟨_, _, _, _, _, _, _, _, _, _, hM⟩ := hI; exact wp_fail hM
        ·intro k5818 a w hI J5832 hJ5832
         obtain ⟨at_5809, A5810, c5811, bytes5812, f5813, f5815, b_5817, hS, hV5814, hB5816, hM⟩ := hI
         rw [mortiselaw06_HuffBack.l3] at hM
         refine wp_seq <| wp_seq <| wp_region_list <| st1 hS (mv rfl) rfl fun a w hS => st1 hS (bin rfl rfl rfl) rfl fun a w hS => wpList_nil <| then_n <| s_cond hS rfl hM (fun hb5819 hM => ?_) (fun hb5819 hM => ?_)
         ·refine wp_skip ?_
          refine then_n <| wp_seq <| wp_block <| wp_region_list <| st1 hS (mv rfl) rfl fun a w hS => st1 hS (mv rfl) rfl fun a w hS => ?_
          obtain ⟨hk5820, hM⟩ := wp_chk hM
          refine st1 hS (ixV rfl rfl Try.runUnderlying22 Try.sizeOf3 (h5512.rd (i := 0) rfl) (fun _ => rfl) rfl hk5820) rfl fun a w hS => st1 hS (ldV0 rfl (h5512.rd (i := 0) rfl) (fun _ => rfl) hk5820 rfl Try.isAgg3) rfl fun a w hS => st1 hS (cvi rfl Try.runUnderlying3 Try.runUnderlying53) rfl fun a w hS => st1 hS (mv rfl) rfl fun a w hS => st1 hS (cvi rfl Try.runUnderlying3 Try.runUnderlying46) rfl fun a w hS => ?_
          obtain ⟨hk5821, hM⟩ := wp_chk hM
          refine st1 hS (shr rfl rfl hk5821) rfl fun a w hS => st1 hS (rem rfl rfl rfl) rfl fun a w hS => s_call hS rfl Try.call23 (bits_Writer_Put_c hG K (T_bits_Writer.mk (T_bits_place.mk at_5809) bytes5812) (irem (ishr .u32 (wr .u32 (rd x5509 k_5777)) (wr .u64 b_5817)) (2 : Int)) (1 : Int) b5535 f5815 A5810 c5811 f5813 hB5816 hV5814 (hS.st.part 2 [3, 4, 0, 1, 2, 5] (by kernel_rfl)) (wp_bind hM) (fun x5822 at_5823 A5824 c5825 bytes5826 f5827 f5828 w hM h5829 h5830 hst => s_back hS.ev hst.appF rfl fun hS => ?_))
          replace hS : Ss _ _ _ H [f5828, f5827, f5510, f5527, f5532, f5771] F _ _ := hS
          refine wpList_nil <| blk_n (then_n ?_)
          refine wp_region_list <| st1 hS (mv rfl) rfl fun a w hS => st1 hS (bin rfl rfl rfl) rfl fun a w hS => st1x (v := Value.int .i64) (x0 := (w64 (b_5817 - (1 : Int)))) hS (asg rfl) rfl fun b_5831 a w hz hS => ?_
          have hM := lt_to hz hM; clear hz
          refine wpList_nil <| then_n ?_
          exact hJ5832 _ _ ⟨at_5823, A5824, c5825, bytes5826, f5827, f5828, b_5831, hS.to [2, 3, 4, 0, 1, 5] (by kernel_rfl) ⟨rfl, rfl, rfl, rfl, rfl, rfl, rfl, rfl, rfl, trivial⟩, h5829, h5830, hM⟩
         ·refine wp_exit ?_
          refine then_ex (then_ex (blk_same (then_n ?_)))
          exact hJ5841 _ _ ⟨at_5809, A5810, c5811, bytes5812, f5813, f5815, hS.to [0, 1, 2, 3, 4, 5] (by kernel_rfl) ⟨rfl, rfl, rfl, rfl, rfl, rfl, rfl, rfl, trivial⟩, hV5814, hB5816, hM⟩
       ·intro a w hI
        obtain ⟨at_5833, A5834, c5835, bytes5836, f5837, f5839, hS, hV5838, hB5840, hM⟩ := hI
        rw [mortiselaw06_HuffBack.j4] at hM
        refine wp_region_list <| st1 hS (mv rfl) rfl fun a w hS => st1 hS (mv rfl) rfl fun a w hS => bsl (g := (ci .i64)) ([k_5777] : List Int) [.int .i64 k_5777] hS Try.runUnderlying22 Try.sizeOf3 X.el3 rfl rfl rfl (by simp [Value.cells]) rfl rfl rfl rfl rfl fun w A5842 c5843 f5844 hV5845 hS => ?_
        obtain ⟨hk5846, hM⟩ := wp_chk hM
        refine apV (ys := ([k_5777] : List Int)) 6 hS rfl rfl hV5772 rfl (hV5845.rd (i := 0) rfl) Try.runUnderlying22 Try.runUnderlying22 X.el3 (fun _ => rfl) rfl one_t3 hk5846 rfl fun zs5851 w A5847 c5848 f5849 hz hV5850 hS => ?_
        have hM := lt_to hz hM; clear hz
        refine st1 hS (asg rfl) rfl fun a w hS => wpList_nil <| blk_n (then_n ?_)
        refine wp_region_list <| st1 hS (mv rfl) rfl fun a w hS => st1 hS (bin rfl rfl rfl) rfl fun a w hS => st1x (v := Value.int .i64) (x0 := (w64 (i5773 + (1 : Int)))) hS (asg rfl) rfl fun i5852 a w hz hS => ?_
        have hM := lt_to hz hM; clear hz
        refine wpList_nil <| then_n ?_
        exact hJ5853 _ _ ⟨at_5833, A5834, c5835, bytes5836, f5837, f5839, A5847, c5848, zs5851, f5849, i5852, hS.to [1, 2, 3, 4, 5, 6] (by kernel_rfl) ⟨rfl, rfl, rfl, rfl, rfl, rfl, rfl, trivial⟩, hV5838, hB5840, hV5850, hM⟩
     ·refine wp_exit ?_
      refine then_ex (then_ex (blk_same (then_n ?_)))
      exact hJ5867 _ _ ⟨at_5760, A5761, c5762, bytes5763, f5764, f5766, A5768, c5769, kept5770, f5771, hS.to [1, 2, 3, 4, 5] (by kernel_rfl) ⟨rfl, rfl, rfl, trivial⟩, hV5765, hB5767, hV5772, hM⟩
   ·intro a w hI
    obtain ⟨at_5854, A5855, c5856, bytes5857, f5858, f5860, A5862, c5863, kept5864, f5865, hS, hV5859, hB5861, hV5866, hM⟩ := hI
    rw [mortiselaw06_HuffBack.j5] at hM
    refine wp_seq <| wp_region_list <| s_call hS rfl Try.call24 (bits_Writer_String_c hG K (T_bits_Writer.mk (T_bits_place.mk at_5854) bytes5857) b5535 f5860 A5855 c5856 f5858 hB5861 hV5859 (hS.st.part 2 [2, 3, 0, 1, 4] (by kernel_rfl)) (wp_bind hM) (fun x5878 w hM  hst => s_back hS.ev hst.appF rfl fun hS => ?_))
    replace hS : Ss _ _ _ H [f5860, f5858, f5527, f5532, f5865] F _ _ := hS
    refine s_call hS rfl Try.call16 (bits_New_c hG K x5878 (hS.st.part 0 [0, 1, 2, 3, 4] (by kernel_rfl)) (wp_bind hM) (fun b5879 f5880 w hM h5881 hst => s_back hS.ev hst.appF rfl fun hS => ?_))
    replace hS : Ss _ _ _ H [f5880, f5860, f5858, f5527, f5532, f5865] F _ _ := hS
    refine st1 hS (asg rfl) rfl fun a w hS => wpList_nil <| then_n <| wp_seq <| wp_seq <| wp_region_list <| st1 hS (mv rfl) rfl fun a w hS => st1 hS (eqNil rfl rfl Try.runUnderlying33) rfl fun a w hS => wpList_nil <| then_n <| s_condF hS rfl <| wp_skip <| then_n <| seq_joinJ (fun a w => ∃ (at_5916 : Int) (f5917 : Frag), Ss 134 [] [(9, ptr b5535 0), (14, ptr b5879 0)] H [f5860, f5858, f5917] F a w ∧ (Blk f5917 b5879 ([.int .i64 at_5916, str x5878]) 63) ∧ (mortiselaw06_HuffBack.j7 K at_5854 bytes5857 x5878 at_5916).wp kr kp) (fun J5919 hJ5919 => ?_) ?_
    ·refine wp_seq ?_
     refine wp_region_list <| st1 hS (asg rfl) rfl fun a w hS => wpList_nil <| then_n <| wp_block <| s_loopJ (fun k5903 a w => ∃ (at_5899 : Int) (f5900 : Frag) (i5902 : Int), Ss 134 [] [(7, ptr b5526 0), (9, ptr b5535 0), (10, .slice A5862 kept5864.length c5863), (14, ptr b5879 0), (15, .int .i64 i5902)] H [f5527, f5532, f5860, f5858, f5865, f5900] F a w ∧ (Blk f5900 b5879 ([.int .i64 at_5899, str x5878]) 63) ∧ (mortiselaw06_HuffBack.l6 K x5524 at_5854 bytes5857 kept5864 x5878 k5903 at_5899 i5902).wp kr kp) K ?_ ?_ ?_
     ·exact ⟨(0 : Int), f5880, (0 : Int), hS.to [3, 4, 1, 2, 5, 0] (by kernel_rfl) ⟨rfl, rfl, rfl, rfl, rfl, trivial⟩, h5881, hM⟩
     ·intro a w hI; obtain ⟨_, _, _, _, _, hM⟩ := hI; exact wp_fail hM
     ·intro k5903 a w hI J5915 hJ5915
      obtain ⟨at_5899, f5900, i5902, hS, hB5901, hM⟩ := hI
      rw [mortiselaw06_HuffBack.l6] at hM
      refine wp_seq <| wp_seq <| wp_region_list <| st1 hS (mv rfl) rfl fun a w hS => st1 hS (mv rfl) rfl fun a w hS => st1 hS (lenV rfl Try.runUnderlying22) rfl fun a w hS => st1 hS (bin rfl rfl rfl) rfl fun a w hS => wpList_nil <| then_n <| s_cond hS rfl hM (fun hb5904 hM => ?_) (fun hb5904 hM => ?_)
      ·refine wp_skip ?_
       refine then_n <| wp_seq <| wp_block <| wp_seq <| wp_region_list <| st1 hS (mv rfl) rfl fun a w hS => st1 hS (mv rfl) rfl fun a w hS => s_call hS rfl Try.call17 (huff_Table_Next_c hG K x5524 (T_bits_Reader.mk (T_bits_place.mk at_5899) x5878) b5526 f5527 A5530 c5531 f5532 b5879 f5900 hB5528 hl5529 hV5533 hB5901 (hS.st.part 3 [0, 1, 5, 2, 3, 4] (by kernel_rfl)) (wp_bind hM) (fun x5905 x5906 at_5907 f5908 w hM h5909 hst => s_back hS.ev hst.appF rfl fun hS => ?_))
       replace hS : Ss _ _ _ H [f5908, f5527, f5532, f5860, f5858, f5865] F _ _ := hS
       refine st1 hS (mv rfl) rfl fun a w hS => st1 hS (ex rfl rfl) rfl fun a w hS => st1 hS (ex rfl rfl) rfl fun a w hS => st1 hS (asg rfl) rfl fun a w hS => st1 hS (asg rfl) rfl fun a w hS => wpList_nil <| then_n <| wp_seq <| wp_region_list <| st1 hS (mv rfl) rfl fun a w hS => st1 hS (bin rfl rfl rfl) rfl fun a w hS => st1 hS (mv rfl) rfl fun a w hS => ?_
       obtain ⟨hk5912, hM⟩ := wp_chk hM
       refine g_op 6 false 119 (b := (x5906 != (0 : Int))) (r := (x5905 != (rd kept5864 i5902))) hS rfl rfl rfl rfl rfl rfl rfl (fun hb a w hS K hK => ?_) rfl fun a w hS => ?_
       ·refine st1g hS rfl rfl rfl hb (mv rfl) rfl fun a w hS => ?_
        refine st1g hS rfl rfl rfl hb (mv rfl) rfl fun a w hS => st1g hS rfl rfl rfl hb (mv rfl) rfl fun a w hS => ?_
        have hk5911 := imp_of hk5912 hb
        refine st1g hS rfl rfl rfl hb (ixV rfl rfl Try.runUnderlying22 Try.sizeOf3 (hV5866.rd (i := 5) rfl) (fun _ => rfl) rfl hk5911) rfl fun a w hS => st1g hS rfl rfl rfl hb (ldV0 rfl (hV5866.rd (i := 5) rfl) (fun _ => rfl) hk5911 rfl Try.isAgg3) rfl fun a w hS => st1g hS rfl rfl rfl hb (bin rfl rfl rfl) rfl fun a w hS => ?_
        exact wpList_nil (hK _ _ (hS.up 6 rfl rfl))
       refine wpList_nil <| then_n <| s_cond hS rfl hM (fun hb5913 hM => ?_) (fun hb5913 hM => ?_)
       ·refine wp_seq ?_
        refine wp_region_list <| st1 hS (asg rfl) rfl fun a w hS => wpList_nil <| then_n <| wp_ret <| blk_ret (then_ret (then_ret (blk_ret (then_ret ?_))))
        exact s_ret (rs := [4]) hS rfl rfl (hret false w (wp_ok hM) (hS.st.pick [] (by kernel_rfl)))
       ·refine wp_skip ?_
        refine blk_n (then_n ?_)
        refine wp_region_list <| st1 hS (mv rfl) rfl fun a w hS => st1 hS (bin rfl rfl rfl) rfl fun a w hS => st1x (v := Value.int .i64) (x0 := (w64 (i5902 + (1 : Int)))) hS (asg rfl) rfl fun i5914 a w hz hS => ?_
        have hM := lt_to hz hM; clear hz
        refine wpList_nil <| then_n ?_
        exact hJ5915 _ _ ⟨at_5907, f5908, i5914, hS.to [1, 2, 3, 4, 5, 0] (by kernel_rfl) ⟨rfl, rfl, rfl, rfl, rfl, trivial⟩, h5909, hM⟩
      ·refine wp_exit ?_
       refine then_ex (then_ex (blk_same (then_n ?_)))
       exact hJ5919 _ _ ⟨at_5899, f5900, hS.to [2, 3, 5] (by kernel_rfl) ⟨rfl, rfl, trivial⟩, hB5901, hM⟩
    ·intro a w hI
     obtain ⟨at_5916, f5917, hS, hB5918, hM⟩ := hI
     rw [mortiselaw06_HuffBack.j7] at hM
     refine wp_seq <| wp_region_list <| st1 hS (mv rfl) rfl fun a w hS => s_call hS rfl Try.call19 (bits_Reader_At_c hG K (T_bits_Reader.mk (T_bits_place.mk at_5916) x5878) b5879 f5917 hB5918 (hS.st.part 1 [2, 0, 1] (by kernel_rfl)) (wp_bind hM) (fun  w hM  hst => s_back hS.ev hst.appF rfl fun hS => ?_))
     replace hS : Ss _ _ _ H [f5917, f5860, f5858] F _ _ := hS
     refine s_call hS rfl Try.call25 (bits_Writer_Len_c hG K (T_bits_Writer.mk (T_bits_place.mk at_5854) bytes5857) b5535 f5860 A5855 c5856 f5858 hB5861 hV5859 (hS.st.part 2 [1, 2, 0] (by kernel_rfl)) (wp_bind hM) (fun  w hM  hst => s_back hS.ev hst.appF rfl fun hS => ?_))
     replace hS : Ss _ _ _ H [f5860, f5858, f5917] F _ _ := hS
     refine st1 hS (bin rfl rfl rfl) rfl fun a w hS => st1 hS (mv rfl) rfl fun a w hS => seg_cutJ (fun a w => ∃ (v5930 : Bool), Ss 134 [] [(133, .bool v5930)] H [] F a w ∧ (mortiselaw06_HuffBack.j8 K v5930).wp kr kp) 2 (fun J5931 hJ5931 => ?_) ?_
     ·refine ifB (b := (at_5916 == at_5854)) hM (fun hb5928 hM => ?_) (fun hb5928 hM => ?_)
      ·replace hS := hS.re 130 (v := .bool true) rfl (congrArg Value.bool hb5928)
       replace hS := hS.re 131 (v := .bool true) rfl (congrArg Value.bool hb5928)
       refine unguard hS rfl rfl rfl rfl <| s_call hS rfl Try.call14 (mortiselaw06_live_c hG K  (hS.st.part 0 [0, 1, 2] (by kernel_rfl)) (wp_bind hM) (fun x5929 w hM  hst => s_back hS.ev hst.appF rfl fun hS => ?_) (fun v w hk hst => s_pan (then_pan (then_pan (⟨hS.ev.defs, hpan _ _ hk hst.appF.frame⟩)))))
       replace hS : Ss _ _ _ H [f5860, f5858, f5917] F _ _ := hS
       refine st1 hS (pk rfl rfl rfl) rfl fun a w hS => wpList_nil <| then_n ?_
       exact hJ5931 _ _ ⟨x5929, hS.to [] (by kernel_rfl) ⟨rfl, trivial⟩, hM⟩
      ·replace hS := hS.re 130 (v := .bool false) rfl (congrArg Value.bool hb5928)
       replace hS := hS.re 131 (v := .bool false) rfl (congrArg Value.bool hb5928)
       refine skips 1 hS rfl fun a w hS => st1 hS (pk rfl rfl rfl) rfl fun a w hS => wpList_nil <| then_n ?_
       exact hJ5931 _ _ ⟨false, hS.to [] (by kernel_rfl) ⟨rfl, trivial⟩, hM⟩
     ·intro a w hI
      obtain ⟨v5930, hS, hM⟩ := hI
      rw [mortiselaw06_HuffBack.j8] at hM
      refine st1 hS (asg rfl) rfl fun a w hS => wpList_nil <| then_n <| wp_ret ?_
      exact s_ret (rs := [4]) hS rfl rfl (hret v5930 w (wp_ok hM) (hS.st.pick [] (by kernel_rfl)))
end Go.TryS
