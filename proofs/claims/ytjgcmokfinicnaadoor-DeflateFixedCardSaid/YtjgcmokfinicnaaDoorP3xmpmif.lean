/- Printed by a program of mine: each Go function answers what its model answers; conditions: what each theorem asks of memory. -/
import Derived.Test.YtjgcmokfinicnaaDoorP2xoaeej
set_option linter.unusedVariables false
set_option linter.unusedSimpArgs false
set_option maxRecDepth 100000
namespace Go.TrydS
open Go Go.Sl Go.Mo Go.Proofs
attribute [local irreducible] Res.wp
theorem slices_symMergeCmpFunc_huff_packet__b6e1_b35e_cr (K : Nat) : ∀ (d : Nat) {H : Imm} {F : List Frag} {w : World} {R : Ending → World → Prop} {kr : (List T_huff_packet) → Prop} {kp : Value → Prop} (hG : Gl H) (data4420 : List T_huff_packet) (a_4428 : Int) (m4429 : Int) (b_4430 : Int) (p4421 : Frag) (A4422 : Option Addr) (c4423 : Nat) (rw4424 : List (Row 2)) (f4426 : Frag) (hr4425 : RelL (R_huff_packet p4421) data4420 rw4424) (hV4427 : Vec 112 (Row.v (sz := 2)) 2 A4422 rw4424 c4423 f4426)
    (hS : St w H [p4421, f4426] F) (hm : (slices_symMergeCmpFunc_huff_packet__b6e1_b35e.r K d data4420 a_4428 m4429 b_4430).wp kr kp)
    (hret : ∀ (rw4755 : List (Row 2)) (data4756 : (List T_huff_packet)) (f4757 : Frag) (w : World), kr data4756 → (Vec 112 (Row.v (sz := 2)) 2 A4422 rw4755 c4423 f4757) → (RelL (R_huff_packet p4421) data4756 rw4755) → (rw4755.length = rw4424.length) → St w H [p4421, f4757] F → R (.returned (.tuple ⟨[]⟩)) w),
    Calls Tryd.prog 100 ⟨[.slice A4422 rw4424.length c4423, .int .i64 a_4428, .int .i64 m4429, .int .i64 b_4430, fnv 84 [] []]⟩ w R := by
  intro d
  induction d with
  | zero => intro H F w R kr kp hG data4420 a_4428 m4429 b_4430 p4421 A4422 c4423 rw4424 f4426 hr4425 hV4427 hS hm hret; exact (wp_fail hm).elim
  | succ d ih =>
  intro H F w R kr kp hG data4420 a_4428 m4429 b_4430 p4421 A4422 c4423 rw4424 f4426 hr4425 hV4427 hS hm hret
  have hM := hm; clear hm
  rw [slices_symMergeCmpFunc_huff_packet__b6e1_b35e.r] at hM; rw [slices_symMergeCmpFunc_huff_packet__b6e1_b35e.b] at hM
  refine enter Tryd.func100 rfl Tryd.ntmps100 rfl hS fun a w hS => ?_
  have hs4431 : ∀ q ∈ p4421, q ∈ p4421 := fun _ h => h
  have hz4432 : rw4424.length = rw4424.length := rfl
  refine seq_joinJ (fun a w => Ss 220 [] [(0, .slice A4422 rw4424.length c4423), (1, .int .i64 a_4428), (2, .int .i64 m4429), (3, .int .i64 b_4430), (4, fnv 84 [] [])] H [p4421, f4426] F a w ∧ (slices_symMergeCmpFunc_huff_packet__b6e1_b35e.j4 K (slices_symMergeCmpFunc_huff_packet__b6e1_b35e.r K d) data4420 a_4428 m4429 b_4430).wp kr kp) (fun J4557 hJ4557 => ?_) ?_
  ·refine wp_seq ?_
   refine wp_region_list <| st1 hS (mv rfl) rfl fun a w hS => st1 hS (mv rfl) rfl fun a w hS => st1 hS (bin rfl rfl rfl) rfl fun a w hS => st1 hS (bin rfl rfl rfl) rfl fun a w hS => wpList_nil <| then_n <| s_cond hS rfl hM (fun hb4433 hM => ?_) (fun hb4433 hM => ?_)
   ·refine wp_seq ?_
    refine wp_region_list <| st1 hS (mv rfl) rfl fun a w hS => st1 hS (asg rfl) rfl fun a w hS => wpList_nil <| then_n <| wp_seq <| wp_region_list <| st1 hS (mv rfl) rfl fun a w hS => st1 hS (asg rfl) rfl fun a w hS => wpList_nil <| then_n <| seq_joinJ (fun a w => ∃ (i4457 : Int), Ss 220 [] [(0, .slice A4422 rw4424.length c4423), (1, .int .i64 a_4428), (10, .int .i64 i4457)] H [p4421, f4426] F a w ∧ (slices_symMergeCmpFunc_huff_packet__b6e1_b35e.j2 K (slices_symMergeCmpFunc_huff_packet__b6e1_b35e.r K d) data4420 a_4428 i4457).wp kr kp) (fun J4458 hJ4458 => ?_) ?_
    ·refine wp_block ?_
     refine s_loopJ (fun k4436 a w => ∃ (i4434 : Int) (j4435 : Int), Ss 220 [] [(0, .slice A4422 rw4424.length c4423), (1, .int .i64 a_4428), (4, fnv 84 [] []), (10, .int .i64 i4434), (11, .int .i64 j4435)] H [p4421, f4426] F a w ∧ (slices_symMergeCmpFunc_huff_packet__b6e1_b35e.l1 K (slices_symMergeCmpFunc_huff_packet__b6e1_b35e.r K d) data4420 a_4428 k4436 i4434 j4435).wp kr kp) K ?_ ?_ ?_
     ·exact ⟨m4429, b_4430, hS.to [0, 1] (by kernel_rfl) ⟨rfl, rfl, rfl, rfl, rfl, trivial⟩, hM⟩
     ·intro a w hI; obtain ⟨_, _, _, hM⟩ := hI; exact wp_fail hM
     ·intro k4436 a w hI J4456 hJ4456
      obtain ⟨i4434, j4435, hS, hM⟩ := hI
      rw [slices_symMergeCmpFunc_huff_packet__b6e1_b35e.l1] at hM
      refine wp_seq <| wp_seq <| wp_region_list <| st1 hS (mv rfl) rfl fun a w hS => st1 hS (mv rfl) rfl fun a w hS => st1 hS (bin rfl rfl rfl) rfl fun a w hS => wpList_nil <| then_n <| s_cond hS rfl hM (fun hb4437 hM => ?_) (fun hb4437 hM => ?_)
      ·refine wp_skip ?_
       refine then_n <| wp_block <| wp_seq <| wp_region_list <| st1 hS (mv rfl) rfl fun a w hS => st1 hS (mv rfl) rfl fun a w hS => st1 hS (bin rfl rfl rfl) rfl fun a w hS => st1 hS (cvi rfl Tryd.runUnderlying3 Tryd.runUnderlying39) rfl fun a w hS => st1 hS (shr rfl rfl rfl) rfl fun a w hS => st1 hS (cvi rfl Tryd.runUnderlying39 Tryd.runUnderlying3) rfl fun a w hS => st1x (v := Value.int .i64) (x0 := (wr .i64 (ishr .u64 (wr .u64 (w64 (i4434 + j4435))) (1 : Int)))) hS (asg rfl) rfl fun h4438 a w hz hS => ?_
       have hM := lt_to hz hM; clear hz
       refine wpList_nil <| then_n <| wp_seq ?_
       obtain ⟨hk4440, hM⟩ := wp_chk hM
       obtain ⟨A4441, c4442, hw4445, hp4443, hc4444⟩ := hr4425.get hk4440
       obtain ⟨hk4447, hM⟩ := wp_chk hM
       obtain ⟨A4448, c4449, hw4452, hp4450, hc4451⟩ := hr4425.get hk4447
       refine draw_begin (vals := [some (fnv 84 [] []), some (.slice A4422 rw4424.length c4423), some (.int .i64 h4438), some (slp A4422 (Int.toNat h4438 * 2)), some (.agg ⟨[.int .i64 ((rd data4420 h4438).often_), .slice A4441 ((rd data4420 h4438).symbols_).length c4442]⟩), some (.slice A4422 rw4424.length c4423), some (.int .i64 a_4428), some (slp A4422 (Int.toNat a_4428 * 2)), some (.agg ⟨[.int .i64 ((rd data4420 a_4428).often_), .slice A4448 ((rd data4420 a_4428).symbols_).length c4449]⟩), none, none]) hS mixed rfl ?_
       intro l w ho hcl hA hst
       refine phq hA hst ho hcl navail nmust 9 [0, 1, 2, 3, 4, 5, 6, 7, 8] rfl rfl rfl rfl rfl (by exact ⟨nR rfl rfl rfl rfl rfl (by exact ovE (mv rfl) rfl), nR rfl rfl rfl rfl rfl (by exact ovE (mv rfl) rfl), nR rfl rfl rfl rfl rfl (by exact ovE (mv rfl) rfl), nR rfl rfl rfl rfl rfl (by exact ovE (ixV rfl rfl Tryd.runUnderlying110 Tryd.sizeOf112 (hV4427.rd (i := 1) rfl) Row.len rfl (hr4425.inb hk4440)) rfl), nR rfl rfl rfl rfl rfl (by exact ovE (ovE (ldVA rfl (hV4427.rd (i := 1) rfl) Row.len (hr4425.inb hk4440) Tryd.isAgg112 Tryd.sizeOf112 rfl) (congrArg (fun l => Value.agg ⟨l⟩) hw4445)) rfl), nR rfl rfl rfl rfl rfl (by exact ovE (mv rfl) rfl), nR rfl rfl rfl rfl rfl (by exact ovE (mv rfl) rfl), nR rfl rfl rfl rfl rfl (by exact ovE (ixV rfl rfl Tryd.runUnderlying110 Tryd.sizeOf112 (hV4427.rd (i := 1) rfl) Row.len rfl (hr4425.inb hk4447)) rfl), nR rfl rfl rfl rfl rfl (by exact ovE (ovE (ldVA rfl (hV4427.rd (i := 1) rfl) Row.len (hr4425.inb hk4447) Tryd.isAgg112 Tryd.sizeOf112 rfl) (congrArg (fun l => Value.agg ⟨l⟩) hw4452)) rfl), trivial⟩) fun D l a w ho hcl hav hpre hm hE hk hA hst => ?_
       have hS := (Ss.mk hE hst).env2 (e' := [(40, fnv 84 [] []), (44, .agg ⟨[.int .i64 ((rd data4420 h4438).often_), .slice A4441 ((rd data4420 h4438).symbols_).length c4442]⟩), (48, .agg ⟨[.int .i64 ((rd data4420 a_4428).often_), .slice A4448 ((rd data4420 a_4428).symbols_).length c4449]⟩)]) ⟨rfl, rfl, rfl, trivial⟩
       refine op_of_nth rfl <| s_callV hS rfl rfl Tryd.call84 (huff_merged_1_c hG K (T_huff_packet.mk ((rd data4420 h4438).often_) ((rd data4420 h4438).symbols_)) (T_huff_packet.mk ((rd data4420 a_4428).often_) ((rd data4420 a_4428).symbols_)) A4441 c4442 A4448 c4449 (hp4443.rdF (i := 0) rfl) hc4444 (hp4450.rdF (i := 0) rfl) hc4451 (hS.st.part 0 [0, 1] (by kernel_rfl)) (wp_bind hM) (fun x4453 w hM  hst => s_back hS.ev hst.appF rfl fun hS => ?_))
       replace hS : Ss _ _ _ H [p4421, f4426] F _ _ := hS
       refine wpList_nil (then_n ?_)
       replace hst := hS.st
       obtain ⟨hcl, hmust, hav2, hA⟩ := dn (vals' := [some (fnv 84 [] []), some (.slice A4422 rw4424.length c4423), some (.int .i64 h4438), some (slp A4422 (Int.toNat h4438 * 2)), some (.agg ⟨[.int .i64 ((rd data4420 h4438).often_), .slice A4441 ((rd data4420 h4438).symbols_).length c4442]⟩), some (.slice A4422 rw4424.length c4423), some (.int .i64 a_4428), some (slp A4422 (Int.toNat a_4428 * 2)), some (.agg ⟨[.int .i64 ((rd data4420 a_4428).often_), .slice A4448 ((rd data4420 a_4428).symbols_).length c4449]⟩), some (.int .i64 x4453), some (.bool (decide (x4453 < (0 : Int))))]) 9 [(0, 9), (4, 9), (8, 9), (3, 4), (7, 8), (1, 3), (2, 3), (5, 7), (6, 7)] hA hcl hav hm hpre hk rfl rfl rfl rfl rfl rfl rfl
       clear hm hav
       refine phqE hA hst ho hcl hmust [10] rfl rfl rfl (by exact ⟨nR rfl rfl rfl rfl rfl (by exact ovE (bin rfl rfl rfl) rfl), trivial⟩) fun a w hS => ?_
       replace hS := hS.env2 (e' := [(0, .slice A4422 rw4424.length c4423), (1, .int .i64 a_4428), (4, fnv 84 [] []), (10, .int .i64 i4434), (11, .int .i64 j4435), (12, .int .i64 h4438), (50, .bool (decide (x4453 < (0 : Int))))]) ⟨rfl, rfl, rfl, rfl, rfl, rfl, rfl, trivial⟩
       refine then_n <| s_cond hS rfl hM (fun hb4454 hM => ?_) (fun hb4454 hM => ?_)
       ·refine wp_region_list ?_
        refine st1 hS (mv rfl) rfl fun a w hS => st1 hS (bin rfl rfl rfl) rfl fun a w hS => st1x (v := Value.int .i64) (x0 := (w64 (h4438 + (1 : Int)))) hS (asg rfl) rfl fun i4455 a w hz hS => ?_
        have hM := lt_to hz hM; clear hz
        refine wpList_nil <| blk_n (then_n ?_)
        exact hJ4456 _ _ ⟨i4455, j4435, hS.to [0, 1] (by kernel_rfl) ⟨rfl, rfl, rfl, rfl, rfl, trivial⟩, hM⟩
       ·refine wp_region_list ?_
        refine st1 hS (mv rfl) rfl fun a w hS => st1 hS (asg rfl) rfl fun a w hS => wpList_nil <| blk_n (then_n ?_)
        exact hJ4456 _ _ ⟨i4434, h4438, hS.to [0, 1] (by kernel_rfl) ⟨rfl, rfl, rfl, rfl, rfl, trivial⟩, hM⟩
      ·refine wp_exit ?_
       refine then_ex (then_ex (blk_same (then_n ?_)))
       exact hJ4458 _ _ ⟨i4434, hS.to [0, 1] (by kernel_rfl) ⟨rfl, rfl, rfl, trivial⟩, hM⟩
    ·intro a w hI
     obtain ⟨i4457, hS, hM⟩ := hI
     rw [slices_symMergeCmpFunc_huff_packet__b6e1_b35e.j2] at hM
     refine wp_seq <| wp_seq <| wp_region_list <| st1 hS (mv rfl) rfl fun a w hS => st1 hS (asg rfl) rfl fun a w hS => wpList_nil <| then_n <| wp_block <| s_loopJ (fun k4515 a w => ∃ (rw4508 : List (Row 2)) (data4509 : (List T_huff_packet)) (f4510 : Frag) (k_4514 : Int), Ss 220 [] [(0, .slice A4422 rw4508.length c4423), (10, .int .i64 i4457), (13, .int .i64 k_4514)] H [p4421, f4510] F a w ∧ (Vec 112 (Row.v (sz := 2)) 2 A4422 rw4508 c4423 f4510) ∧ (RelL (R_huff_packet p4421) data4509 rw4508) ∧ (rw4508.length = rw4424.length) ∧ (slices_symMergeCmpFunc_huff_packet__b6e1_b35e.l3 K (slices_symMergeCmpFunc_huff_packet__b6e1_b35e.r K d) i4457 k4515 data4509 k_4514).wp kr kp) K ?_ ?_ ?_
     ·exact ⟨rw4424, data4420, f4426, a_4428, hS.to [0, 1] (by kernel_rfl) ⟨rfl, rfl, rfl, trivial⟩, hV4427, hr4425, hz4432, hM⟩
     ·intro a w hI; obtain ⟨_, _, _, _, _, _, _, _, hM⟩ := hI; exact wp_fail hM
     ·intro k4515 a w hI J4556 hJ4556
      obtain ⟨rw4508, data4509, f4510, k_4514, hS, hV4511, hr4512, hz4513, hM⟩ := hI
      rw [slices_symMergeCmpFunc_huff_packet__b6e1_b35e.l3] at hM
      refine wp_seq <| wp_seq <| wp_region_list <| st1 hS (mv rfl) rfl fun a w hS => st1 hS (mv rfl) rfl fun a w hS => st1 hS (bin rfl rfl rfl) rfl fun a w hS => st1 hS (bin rfl rfl rfl) rfl fun a w hS => wpList_nil <| then_n <| s_cond hS rfl hM (fun hb4516 hM => ?_) (fun hb4516 hM => ?_)
      ·refine wp_skip ?_
       refine then_n <| wp_seq <| wp_block ?_
       obtain ⟨hk4518, hM⟩ := wp_chk hM
       obtain ⟨A4519, c4520, hw4523, hp4521, hc4522⟩ := hr4512.get hk4518
       obtain ⟨hk4525, hM⟩ := wp_chk hM
       obtain ⟨A4526, c4527, hw4530, hp4528, hc4529⟩ := hr4512.get hk4525
       refine draw_begin (vals := [some (.slice A4422 rw4508.length c4423), some (.int .i64 k_4514), some (.slice A4422 rw4508.length c4423), some (.int .i64 k_4514), some (.int .i64 (w64 (k_4514 + (1 : Int)))), some (.slice A4422 rw4508.length c4423), some (.int .i64 k_4514), some (.int .i64 (w64 (k_4514 + (1 : Int)))), some (slp A4422 (Int.toNat (w64 (k_4514 + (1 : Int))) * 2)), some (.agg ⟨[.int .i64 ((rd data4509 (w64 (k_4514 + (1 : Int)))).often_), .slice A4519 ((rd data4509 (w64 (k_4514 + (1 : Int)))).symbols_).length c4520]⟩), some (.slice A4422 rw4508.length c4423), some (.int .i64 k_4514), some (slp A4422 (Int.toNat k_4514 * 2)), some (.agg ⟨[.int .i64 ((rd data4509 k_4514).often_), .slice A4526 ((rd data4509 k_4514).symbols_).length c4527]⟩), some (slp A4422 (Int.toNat k_4514 * 2)), none, none, none]) hS mixed rfl ?_
       intro l w ho hcl hA hst
       refine phq hA hst ho hcl navail nmust 15 [0, 1, 2, 3, 4, 5, 6, 7, 8, 9, 10, 11, 12, 13, 14] rfl rfl rfl rfl rfl (by exact ⟨nR rfl rfl rfl rfl rfl (by exact ovE (mv rfl) rfl), nR rfl rfl rfl rfl rfl (by exact ovE (mv rfl) rfl), nR rfl rfl rfl rfl rfl (by exact ovE (mv rfl) rfl), nR rfl rfl rfl rfl rfl (by exact ovE (mv rfl) rfl), nR rfl rfl rfl rfl rfl (by exact ovE (bin rfl rfl rfl) rfl), nR rfl rfl rfl rfl rfl (by exact ovE (mv rfl) rfl), nR rfl rfl rfl rfl rfl (by exact ovE (mv rfl) rfl), nR rfl rfl rfl rfl rfl (by exact ovE (bin rfl rfl rfl) rfl), nR rfl rfl rfl rfl rfl (by exact ovE (ixV rfl rfl Tryd.runUnderlying110 Tryd.sizeOf112 (hV4511.rd (i := 1) rfl) Row.len rfl (hr4512.inb hk4518)) rfl), nR rfl rfl rfl rfl rfl (by exact ovE (ovE (ldVA rfl (hV4511.rd (i := 1) rfl) Row.len (hr4512.inb hk4518) Tryd.isAgg112 Tryd.sizeOf112 rfl) (congrArg (fun l => Value.agg ⟨l⟩) hw4523)) rfl), nR rfl rfl rfl rfl rfl (by exact ovE (mv rfl) rfl), nR rfl rfl rfl rfl rfl (by exact ovE (mv rfl) rfl), nR rfl rfl rfl rfl rfl (by exact ovE (ixV rfl rfl Tryd.runUnderlying110 Tryd.sizeOf112 (hV4511.rd (i := 1) rfl) Row.len rfl (hr4512.inb hk4525)) rfl), nR rfl rfl rfl rfl rfl (by exact ovE (ovE (ldVA rfl (hV4511.rd (i := 1) rfl) Row.len (hr4512.inb hk4525) Tryd.isAgg112 Tryd.sizeOf112 rfl) (congrArg (fun l => Value.agg ⟨l⟩) hw4530)) rfl), nR rfl rfl rfl rfl rfl (by exact ovE (ixV rfl rfl Tryd.runUnderlying110 Tryd.sizeOf112 (hV4511.rd (i := 1) rfl) Row.len rfl (hr4512.inb hk4525)) rfl), trivial⟩) fun D l a w ho hcl hav hpre hm hE hk hA hst => ?_
       have hS := (Ss.mk hE hst).env2 (e' := [(70, .agg ⟨[.int .i64 ((rd data4509 (w64 (k_4514 + (1 : Int)))).often_), .slice A4519 ((rd data4509 (w64 (k_4514 + (1 : Int)))).symbols_).length c4520]⟩), (75, slp A4422 (Int.toNat k_4514 * 2))]) ⟨rfl, rfl, trivial⟩
       refine op_of_nth rfl <| stVR (i := k_4514) (sz := 2) 1 (⟨[.int .i64 ((rd data4509 (w64 (k_4514 + (1 : Int)))).often_), .slice A4519 ((rd data4509 (w64 (k_4514 + (1 : Int)))).symbols_).length c4520], by simp, by simp [Value.oneCell']⟩ : Row 2) hS rfl rfl hV4511 rfl Tryd.sizeOf112 rfl (hr4512.inb hk4525) fun rw4537 w f4535 hz hV4536 hS => ?_
       obtain ⟨zs4538, hzm⟩ := nameE (data4509.set (Int.toNat k_4514) (T_huff_packet.mk ((rd data4509 (w64 (k_4514 + (1 : Int)))).often_) ((rd data4509 (w64 (k_4514 + (1 : Int)))).symbols_)))
       replace hM := lt_to hzm hM
       have hr4539 := RelL.set (x := (T_huff_packet.mk ((rd data4509 (w64 (k_4514 + (1 : Int)))).often_) ((rd data4509 (w64 (k_4514 + (1 : Int)))).symbols_))) (r := (⟨[.int .i64 ((rd data4509 (w64 (k_4514 + (1 : Int)))).often_), .slice A4519 ((rd data4509 (w64 (k_4514 + (1 : Int)))).symbols_).length c4520], by simp, by simp [Value.oneCell']⟩ : Row 2)) (Int.toNat k_4514) hr4512 (show R_huff_packet p4421 _ _ from ⟨A4519, c4520, rfl, hp4521, hc4522⟩)
       have hz4540 : rw4537.length = rw4508.length := by rw [hz]; exact List.length_set ..
       rw [← hz, ← hzm] at hr4539; clear hz hzm
       have hz4541 := Eq.trans hz4540 hz4513
       refine wpList_nil (then_n ?_)
       replace hst := hS.st
       obtain ⟨hk4543, hM⟩ := wp_chk hM
       obtain ⟨hcl, hmust, hav2, hA⟩ := dnN (vals' := [some (.slice A4422 rw4508.length c4423), some (.int .i64 k_4514), some (.slice A4422 rw4508.length c4423), some (.int .i64 k_4514), some (.int .i64 (w64 (k_4514 + (1 : Int)))), some (.slice A4422 rw4508.length c4423), some (.int .i64 k_4514), some (.int .i64 (w64 (k_4514 + (1 : Int)))), some (slp A4422 (Int.toNat (w64 (k_4514 + (1 : Int))) * 2)), some (.agg ⟨[.int .i64 ((rd data4509 (w64 (k_4514 + (1 : Int)))).often_), .slice A4519 ((rd data4509 (w64 (k_4514 + (1 : Int)))).symbols_).length c4520]⟩), some (.slice A4422 rw4508.length c4423), some (.int .i64 k_4514), some (slp A4422 (Int.toNat k_4514 * 2)), some (.agg ⟨[.int .i64 ((rd data4509 k_4514).often_), .slice A4526 ((rd data4509 k_4514).symbols_).length c4527]⟩), some (slp A4422 (Int.toNat k_4514 * 2)), some undef, some (slp A4422 (Int.toNat (w64 (k_4514 + (1 : Int))) * 2)), none]) 15 [(0, 15), (1, 15), (5, 15), (6, 15), (7, 15), (8, 15), (9, 15), (13, 15), (14, 15), (12, 13), (10, 12), (11, 12)] hA hcl hav hm hpre rfl rfl rfl rfl rfl
       clear hm hav
       refine phq hA hst ho hcl hav2 hmust 17 [2, 3, 4, 16] rfl rfl rfl rfl rfl (by exact ⟨nR rfl rfl rfl rfl rfl (by exact ovE (mv rfl) rfl), nR rfl rfl rfl rfl rfl (by exact ovE (mv rfl) rfl), nR rfl rfl rfl rfl rfl (by exact ovE (bin rfl rfl rfl) rfl), nR rfl rfl rfl rfl rfl (by exact ovE (ixV (lenx hz4540 rfl) rfl Tryd.runUnderlying110 Tryd.sizeOf112 (hV4536.rd (i := 1) rfl) Row.len rfl (hr4539.inb hk4543)) rfl), trivial⟩) fun D l a w ho hcl hav hpre hm hE hk hA hst => ?_
       have hS := (Ss.mk hE hst).env2 (e' := [(74, .agg ⟨[.int .i64 ((rd data4509 k_4514).often_), .slice A4526 ((rd data4509 k_4514).symbols_).length c4527]⟩), (76, slp A4422 (Int.toNat (w64 (k_4514 + (1 : Int))) * 2))]) ⟨rfl, rfl, trivial⟩
       refine op_of_nth rfl <| stVR (i := (w64 (k_4514 + (1 : Int)))) (sz := 2) 1 (⟨[.int .i64 ((rd data4509 k_4514).often_), .slice A4526 ((rd data4509 k_4514).symbols_).length c4527], by simp, by simp [Value.oneCell']⟩ : Row 2) hS rfl rfl hV4536 rfl Tryd.sizeOf112 rfl (hr4539.inb hk4543) fun rw4550 w f4548 hz hV4549 hS => ?_
       obtain ⟨zs4551, hzm⟩ := nameE (zs4538.set (Int.toNat (w64 (k_4514 + (1 : Int)))) (T_huff_packet.mk ((rd data4509 k_4514).often_) ((rd data4509 k_4514).symbols_)))
       replace hM := lt_to hzm hM
       have hr4552 := RelL.set (x := (T_huff_packet.mk ((rd data4509 k_4514).often_) ((rd data4509 k_4514).symbols_))) (r := (⟨[.int .i64 ((rd data4509 k_4514).often_), .slice A4526 ((rd data4509 k_4514).symbols_).length c4527], by simp, by simp [Value.oneCell']⟩ : Row 2)) (Int.toNat (w64 (k_4514 + (1 : Int)))) hr4539 (show R_huff_packet p4421 _ _ from ⟨A4526, c4527, rfl, hp4528, hc4529⟩)
       have hz4553 : rw4550.length = rw4537.length := by rw [hz]; exact List.length_set ..
       rw [← hz, ← hzm] at hr4552; clear hz hzm
       have hz4554 := Eq.trans hz4553 hz4541
       refine wpList_nil (then_n ?_)
       replace hst := hS.st
       obtain ⟨hcl, hmust, hav2, hA⟩ := dnN (vals' := [some (.slice A4422 rw4508.length c4423), some (.int .i64 k_4514), some (.slice A4422 rw4508.length c4423), some (.int .i64 k_4514), some (.int .i64 (w64 (k_4514 + (1 : Int)))), some (.slice A4422 rw4508.length c4423), some (.int .i64 k_4514), some (.int .i64 (w64 (k_4514 + (1 : Int)))), some (slp A4422 (Int.toNat (w64 (k_4514 + (1 : Int))) * 2)), some (.agg ⟨[.int .i64 ((rd data4509 (w64 (k_4514 + (1 : Int)))).often_), .slice A4519 ((rd data4509 (w64 (k_4514 + (1 : Int)))).symbols_).length c4520]⟩), some (.slice A4422 rw4508.length c4423), some (.int .i64 k_4514), some (slp A4422 (Int.toNat k_4514 * 2)), some (.agg ⟨[.int .i64 ((rd data4509 k_4514).often_), .slice A4526 ((rd data4509 k_4514).symbols_).length c4527]⟩), some (slp A4422 (Int.toNat k_4514 * 2)), some undef, some (slp A4422 (Int.toNat (w64 (k_4514 + (1 : Int))) * 2)), some undef]) 17 [(0, 17), (1, 17), (2, 17), (3, 17), (4, 17), (5, 17), (6, 17), (7, 17), (8, 17), (9, 17), (10, 17), (11, 17), (12, 17), (13, 17), (14, 17), (15, 17), (16, 17)] hA hcl hav hm hpre rfl rfl rfl rfl rfl
       clear hm hav
       refine phqE hA hst ho hcl hmust [] rfl rfl rfl trivial fun a w hS => ?_
       replace hS := hS.env2 (e' := [(0, .slice A4422 rw4550.length c4423), (10, .int .i64 i4457), (13, .int .i64 k_4514)]) ⟨(relk (u := .slice A4422 rw4508.length c4423) rfl (by rw [hz4553, hz4540])), rfl, rfl, trivial⟩
       refine blk_n (then_n ?_)
       refine wp_region_list <| st1 hS (mv rfl) rfl fun a w hS => st1 hS (bin rfl rfl rfl) rfl fun a w hS => st1x (v := Value.int .i64) (x0 := (w64 (k_4514 + (1 : Int)))) hS (asg rfl) rfl fun k_4555 a w hz hS => ?_
       have hM := lt_to hz hM; clear hz
       refine wpList_nil <| then_n ?_
       exact hJ4556 _ _ ⟨rw4550, zs4551, f4548, k_4555, hS.to [0, 1] (by kernel_rfl) ⟨rfl, rfl, rfl, trivial⟩, hV4549, hr4552, hz4554, hM⟩
      ·refine wp_exit ?_
       refine then_ex (then_ex (blk_same (then_n ?_)))
       refine wp_ret <| then_ret ?_
       exact s_ret (rs := []) hS rfl rfl (hret rw4508 data4509 f4510 w (wp_ok hM) hV4511 hr4512 hz4513 (hS.st.pick [0, 1] (by kernel_rfl)))
   ·refine wp_skip ?_
    refine then_n ?_
    exact hJ4557 _ _ ⟨hS.to [0, 1] (by kernel_rfl) ⟨rfl, rfl, rfl, rfl, rfl, trivial⟩, hM⟩
  ·intro a w hI
   obtain ⟨hS, hM⟩ := hI
   rw [slices_symMergeCmpFunc_huff_packet__b6e1_b35e.j4] at hM
   refine seq_joinJ (fun a w => Ss 220 [] [(0, .slice A4422 rw4424.length c4423), (1, .int .i64 a_4428), (2, .int .i64 m4429), (3, .int .i64 b_4430), (4, fnv 84 [] [])] H [p4421, f4426] F a w ∧ (slices_symMergeCmpFunc_huff_packet__b6e1_b35e.j8 K (slices_symMergeCmpFunc_huff_packet__b6e1_b35e.r K d) data4420 a_4428 m4429 b_4430).wp kr kp) (fun J4682 hJ4682 => ?_) ?_
   ·refine wp_seq ?_
    refine wp_region_list <| st1 hS (mv rfl) rfl fun a w hS => st1 hS (mv rfl) rfl fun a w hS => st1 hS (bin rfl rfl rfl) rfl fun a w hS => st1 hS (bin rfl rfl rfl) rfl fun a w hS => wpList_nil <| then_n <| s_cond hS rfl hM (fun hb4558 hM => ?_) (fun hb4558 hM => ?_)
    ·refine wp_seq ?_
     refine wp_region_list <| st1 hS (mv rfl) rfl fun a w hS => st1 hS (asg rfl) rfl fun a w hS => wpList_nil <| then_n <| wp_seq <| wp_region_list <| st1 hS (mv rfl) rfl fun a w hS => st1 hS (asg rfl) rfl fun a w hS => wpList_nil <| then_n <| seq_joinJ (fun a w => ∃ (i4582 : Int), Ss 220 [] [(0, .slice A4422 rw4424.length c4423), (2, .int .i64 m4429), (14, .int .i64 i4582)] H [p4421, f4426] F a w ∧ (slices_symMergeCmpFunc_huff_packet__b6e1_b35e.j6 K (slices_symMergeCmpFunc_huff_packet__b6e1_b35e.r K d) data4420 m4429 i4582).wp kr kp) (fun J4583 hJ4583 => ?_) ?_
     ·refine wp_block ?_
      refine s_loopJ (fun k4561 a w => ∃ (i4559 : Int) (j4560 : Int), Ss 220 [] [(0, .slice A4422 rw4424.length c4423), (2, .int .i64 m4429), (4, fnv 84 [] []), (14, .int .i64 i4559), (15, .int .i64 j4560)] H [p4421, f4426] F a w ∧ (slices_symMergeCmpFunc_huff_packet__b6e1_b35e.l5 K (slices_symMergeCmpFunc_huff_packet__b6e1_b35e.r K d) data4420 m4429 k4561 i4559 j4560).wp kr kp) K ?_ ?_ ?_
      ·exact ⟨a_4428, m4429, hS.to [0, 1] (by kernel_rfl) ⟨rfl, rfl, rfl, rfl, rfl, trivial⟩, hM⟩
      ·intro a w hI; obtain ⟨_, _, _, hM⟩ := hI; exact wp_fail hM
      ·intro k4561 a w hI J4581 hJ4581
       obtain ⟨i4559, j4560, hS, hM⟩ := hI
       rw [slices_symMergeCmpFunc_huff_packet__b6e1_b35e.l5] at hM
       refine wp_seq <| wp_seq <| wp_region_list <| st1 hS (mv rfl) rfl fun a w hS => st1 hS (mv rfl) rfl fun a w hS => st1 hS (bin rfl rfl rfl) rfl fun a w hS => wpList_nil <| then_n <| s_cond hS rfl hM (fun hb4562 hM => ?_) (fun hb4562 hM => ?_)
       ·refine wp_skip ?_
        refine then_n <| wp_block <| wp_seq <| wp_region_list <| st1 hS (mv rfl) rfl fun a w hS => st1 hS (mv rfl) rfl fun a w hS => st1 hS (bin rfl rfl rfl) rfl fun a w hS => st1 hS (cvi rfl Tryd.runUnderlying3 Tryd.runUnderlying39) rfl fun a w hS => st1 hS (shr rfl rfl rfl) rfl fun a w hS => st1 hS (cvi rfl Tryd.runUnderlying39 Tryd.runUnderlying3) rfl fun a w hS => st1x (v := Value.int .i64) (x0 := (wr .i64 (ishr .u64 (wr .u64 (w64 (i4559 + j4560))) (1 : Int)))) hS (asg rfl) rfl fun h4563 a w hz hS => ?_
        have hM := lt_to hz hM; clear hz
        refine wpList_nil <| then_n <| wp_seq ?_
        obtain ⟨hk4565, hM⟩ := wp_chk hM
        obtain ⟨A4566, c4567, hw4570, hp4568, hc4569⟩ := hr4425.get hk4565
        obtain ⟨hk4572, hM⟩ := wp_chk hM
        obtain ⟨A4573, c4574, hw4577, hp4575, hc4576⟩ := hr4425.get hk4572
        refine draw_begin (vals := [some (fnv 84 [] []), some (.slice A4422 rw4424.length c4423), some (.int .i64 m4429), some (slp A4422 (Int.toNat m4429 * 2)), some (.agg ⟨[.int .i64 ((rd data4420 m4429).often_), .slice A4566 ((rd data4420 m4429).symbols_).length c4567]⟩), some (.slice A4422 rw4424.length c4423), some (.int .i64 h4563), some (slp A4422 (Int.toNat h4563 * 2)), some (.agg ⟨[.int .i64 ((rd data4420 h4563).often_), .slice A4573 ((rd data4420 h4563).symbols_).length c4574]⟩), none, none, none]) hS mixed rfl ?_
        intro l w ho hcl hA hst
        refine phq hA hst ho hcl navail nmust 9 [0, 1, 2, 3, 4, 5, 6, 7, 8] rfl rfl rfl rfl rfl (by exact ⟨nR rfl rfl rfl rfl rfl (by exact ovE (mv rfl) rfl), nR rfl rfl rfl rfl rfl (by exact ovE (mv rfl) rfl), nR rfl rfl rfl rfl rfl (by exact ovE (mv rfl) rfl), nR rfl rfl rfl rfl rfl (by exact ovE (ixV rfl rfl Tryd.runUnderlying110 Tryd.sizeOf112 (hV4427.rd (i := 1) rfl) Row.len rfl (hr4425.inb hk4565)) rfl), nR rfl rfl rfl rfl rfl (by exact ovE (ovE (ldVA rfl (hV4427.rd (i := 1) rfl) Row.len (hr4425.inb hk4565) Tryd.isAgg112 Tryd.sizeOf112 rfl) (congrArg (fun l => Value.agg ⟨l⟩) hw4570)) rfl), nR rfl rfl rfl rfl rfl (by exact ovE (mv rfl) rfl), nR rfl rfl rfl rfl rfl (by exact ovE (mv rfl) rfl), nR rfl rfl rfl rfl rfl (by exact ovE (ixV rfl rfl Tryd.runUnderlying110 Tryd.sizeOf112 (hV4427.rd (i := 1) rfl) Row.len rfl (hr4425.inb hk4572)) rfl), nR rfl rfl rfl rfl rfl (by exact ovE (ovE (ldVA rfl (hV4427.rd (i := 1) rfl) Row.len (hr4425.inb hk4572) Tryd.isAgg112 Tryd.sizeOf112 rfl) (congrArg (fun l => Value.agg ⟨l⟩) hw4577)) rfl), trivial⟩) fun D l a w ho hcl hav hpre hm hE hk hA hst => ?_
        have hS := (Ss.mk hE hst).env2 (e' := [(92, fnv 84 [] []), (96, .agg ⟨[.int .i64 ((rd data4420 m4429).often_), .slice A4566 ((rd data4420 m4429).symbols_).length c4567]⟩), (100, .agg ⟨[.int .i64 ((rd data4420 h4563).often_), .slice A4573 ((rd data4420 h4563).symbols_).length c4574]⟩)]) ⟨rfl, rfl, rfl, trivial⟩
        refine op_of_nth rfl <| s_callV hS rfl rfl Tryd.call84 (huff_merged_1_c hG K (T_huff_packet.mk ((rd data4420 m4429).often_) ((rd data4420 m4429).symbols_)) (T_huff_packet.mk ((rd data4420 h4563).often_) ((rd data4420 h4563).symbols_)) A4566 c4567 A4573 c4574 (hp4568.rdF (i := 0) rfl) hc4569 (hp4575.rdF (i := 0) rfl) hc4576 (hS.st.part 0 [0, 1] (by kernel_rfl)) (wp_bind hM) (fun x4578 w hM  hst => s_back hS.ev hst.appF rfl fun hS => ?_))
        replace hS : Ss _ _ _ H [p4421, f4426] F _ _ := hS
        refine wpList_nil (then_n ?_)
        replace hst := hS.st
        obtain ⟨hcl, hmust, hav2, hA⟩ := dn (vals' := [some (fnv 84 [] []), some (.slice A4422 rw4424.length c4423), some (.int .i64 m4429), some (slp A4422 (Int.toNat m4429 * 2)), some (.agg ⟨[.int .i64 ((rd data4420 m4429).often_), .slice A4566 ((rd data4420 m4429).symbols_).length c4567]⟩), some (.slice A4422 rw4424.length c4423), some (.int .i64 h4563), some (slp A4422 (Int.toNat h4563 * 2)), some (.agg ⟨[.int .i64 ((rd data4420 h4563).often_), .slice A4573 ((rd data4420 h4563).symbols_).length c4574]⟩), some (.int .i64 x4578), some (.bool (decide (x4578 < (0 : Int)))), some (.bool (!(decide (x4578 < (0 : Int)))))]) 9 [(0, 9), (4, 9), (8, 9), (3, 4), (7, 8), (1, 3), (2, 3), (5, 7), (6, 7)] hA hcl hav hm hpre hk rfl rfl rfl rfl rfl rfl rfl
        clear hm hav
        refine phqE hA hst ho hcl hmust [10, 11] rfl rfl rfl (by exact ⟨nR rfl rfl rfl rfl rfl (by exact ovE (bin rfl rfl rfl) rfl), nR rfl rfl rfl rfl rfl (by exact ovE (un rfl rfl) rfl), trivial⟩) fun a w hS => ?_
        replace hS := hS.env2 (e' := [(0, .slice A4422 rw4424.length c4423), (2, .int .i64 m4429), (4, fnv 84 [] []), (14, .int .i64 i4559), (15, .int .i64 j4560), (16, .int .i64 h4563), (103, .bool (!(decide (x4578 < (0 : Int)))))]) ⟨rfl, rfl, rfl, rfl, rfl, rfl, rfl, trivial⟩
        refine then_n <| s_cond hS rfl hM (fun hb4579 hM => ?_) (fun hb4579 hM => ?_)
        ·refine wp_region_list ?_
         refine st1 hS (mv rfl) rfl fun a w hS => st1 hS (bin rfl rfl rfl) rfl fun a w hS => st1x (v := Value.int .i64) (x0 := (w64 (h4563 + (1 : Int)))) hS (asg rfl) rfl fun i4580 a w hz hS => ?_
         have hM := lt_to hz hM; clear hz
         refine wpList_nil <| blk_n (then_n ?_)
         exact hJ4581 _ _ ⟨i4580, j4560, hS.to [0, 1] (by kernel_rfl) ⟨rfl, rfl, rfl, rfl, rfl, trivial⟩, hM⟩
        ·refine wp_region_list ?_
         refine st1 hS (mv rfl) rfl fun a w hS => st1 hS (asg rfl) rfl fun a w hS => wpList_nil <| blk_n (then_n ?_)
         exact hJ4581 _ _ ⟨i4559, h4563, hS.to [0, 1] (by kernel_rfl) ⟨rfl, rfl, rfl, rfl, rfl, trivial⟩, hM⟩
       ·refine wp_exit ?_
        refine then_ex (then_ex (blk_same (then_n ?_)))
        exact hJ4583 _ _ ⟨i4559, hS.to [0, 1] (by kernel_rfl) ⟨rfl, rfl, rfl, trivial⟩, hM⟩
     ·intro a w hI
      obtain ⟨i4582, hS, hM⟩ := hI
      rw [slices_symMergeCmpFunc_huff_packet__b6e1_b35e.j6] at hM
      refine wp_seq <| wp_seq <| wp_region_list <| st1 hS (mv rfl) rfl fun a w hS => st1 hS (asg rfl) rfl fun a w hS => wpList_nil <| then_n <| wp_block <| s_loopJ (fun k4640 a w => ∃ (rw4633 : List (Row 2)) (data4634 : (List T_huff_packet)) (f4635 : Frag) (k_4639 : Int), Ss 220 [] [(0, .slice A4422 rw4633.length c4423), (14, .int .i64 i4582), (17, .int .i64 k_4639)] H [p4421, f4635] F a w ∧ (Vec 112 (Row.v (sz := 2)) 2 A4422 rw4633 c4423 f4635) ∧ (RelL (R_huff_packet p4421) data4634 rw4633) ∧ (rw4633.length = rw4424.length) ∧ (slices_symMergeCmpFunc_huff_packet__b6e1_b35e.l7 K (slices_symMergeCmpFunc_huff_packet__b6e1_b35e.r K d) i4582 k4640 data4634 k_4639).wp kr kp) K ?_ ?_ ?_
      ·exact ⟨rw4424, data4420, f4426, m4429, hS.to [0, 1] (by kernel_rfl) ⟨rfl, rfl, rfl, trivial⟩, hV4427, hr4425, hz4432, hM⟩
      ·intro a w hI; obtain ⟨_, _, _, _, _, _, _, _, hM⟩ := hI; exact wp_fail hM
      ·intro k4640 a w hI J4681 hJ4681
       obtain ⟨rw4633, data4634, f4635, k_4639, hS, hV4636, hr4637, hz4638, hM⟩ := hI
       rw [slices_symMergeCmpFunc_huff_packet__b6e1_b35e.l7] at hM
       refine wp_seq <| wp_seq <| wp_region_list <| st1 hS (mv rfl) rfl fun a w hS => st1 hS (mv rfl) rfl fun a w hS => st1 hS (bin rfl rfl rfl) rfl fun a w hS => wpList_nil <| then_n <| s_cond hS rfl hM (fun hb4641 hM => ?_) (fun hb4641 hM => ?_)
       ·refine wp_skip ?_
        refine then_n <| wp_seq <| wp_block ?_
        obtain ⟨hk4643, hM⟩ := wp_chk hM
        obtain ⟨A4644, c4645, hw4648, hp4646, hc4647⟩ := hr4637.get hk4643
        obtain ⟨hk4650, hM⟩ := wp_chk hM
        obtain ⟨A4651, c4652, hw4655, hp4653, hc4654⟩ := hr4637.get hk4650
        refine draw_begin (vals := [some (.slice A4422 rw4633.length c4423), some (.int .i64 k_4639), some (.slice A4422 rw4633.length c4423), some (.int .i64 k_4639), some (.int .i64 (w64 (k_4639 - (1 : Int)))), some (.slice A4422 rw4633.length c4423), some (.int .i64 k_4639), some (.int .i64 (w64 (k_4639 - (1 : Int)))), some (slp A4422 (Int.toNat (w64 (k_4639 - (1 : Int))) * 2)), some (.agg ⟨[.int .i64 ((rd data4634 (w64 (k_4639 - (1 : Int)))).often_), .slice A4644 ((rd data4634 (w64 (k_4639 - (1 : Int)))).symbols_).length c4645]⟩), some (.slice A4422 rw4633.length c4423), some (.int .i64 k_4639), some (slp A4422 (Int.toNat k_4639 * 2)), some (.agg ⟨[.int .i64 ((rd data4634 k_4639).often_), .slice A4651 ((rd data4634 k_4639).symbols_).length c4652]⟩), some (slp A4422 (Int.toNat k_4639 * 2)), none, none, none]) hS mixed rfl ?_
        intro l w ho hcl hA hst
        refine phq hA hst ho hcl navail nmust 15 [0, 1, 2, 3, 4, 5, 6, 7, 8, 9, 10, 11, 12, 13, 14] rfl rfl rfl rfl rfl (by exact ⟨nR rfl rfl rfl rfl rfl (by exact ovE (mv rfl) rfl), nR rfl rfl rfl rfl rfl (by exact ovE (mv rfl) rfl), nR rfl rfl rfl rfl rfl (by exact ovE (mv rfl) rfl), nR rfl rfl rfl rfl rfl (by exact ovE (mv rfl) rfl), nR rfl rfl rfl rfl rfl (by exact ovE (bin rfl rfl rfl) rfl), nR rfl rfl rfl rfl rfl (by exact ovE (mv rfl) rfl), nR rfl rfl rfl rfl rfl (by exact ovE (mv rfl) rfl), nR rfl rfl rfl rfl rfl (by exact ovE (bin rfl rfl rfl) rfl), nR rfl rfl rfl rfl rfl (by exact ovE (ixV rfl rfl Tryd.runUnderlying110 Tryd.sizeOf112 (hV4636.rd (i := 1) rfl) Row.len rfl (hr4637.inb hk4643)) rfl), nR rfl rfl rfl rfl rfl (by exact ovE (ovE (ldVA rfl (hV4636.rd (i := 1) rfl) Row.len (hr4637.inb hk4643) Tryd.isAgg112 Tryd.sizeOf112 rfl) (congrArg (fun l => Value.agg ⟨l⟩) hw4648)) rfl), nR rfl rfl rfl rfl rfl (by exact ovE (mv rfl) rfl), nR rfl rfl rfl rfl rfl (by exact ovE (mv rfl) rfl), nR rfl rfl rfl rfl rfl (by exact ovE (ixV rfl rfl Tryd.runUnderlying110 Tryd.sizeOf112 (hV4636.rd (i := 1) rfl) Row.len rfl (hr4637.inb hk4650)) rfl), nR rfl rfl rfl rfl rfl (by exact ovE (ovE (ldVA rfl (hV4636.rd (i := 1) rfl) Row.len (hr4637.inb hk4650) Tryd.isAgg112 Tryd.sizeOf112 rfl) (congrArg (fun l => Value.agg ⟨l⟩) hw4655)) rfl), nR rfl rfl rfl rfl rfl (by exact ovE (ixV rfl rfl Tryd.runUnderlying110 Tryd.sizeOf112 (hV4636.rd (i := 1) rfl) Row.len rfl (hr4637.inb hk4650)) rfl), trivial⟩) fun D l a w ho hcl hav hpre hm hE hk hA hst => ?_
        have hS := (Ss.mk hE hst).env2 (e' := [(122, .agg ⟨[.int .i64 ((rd data4634 (w64 (k_4639 - (1 : Int)))).often_), .slice A4644 ((rd data4634 (w64 (k_4639 - (1 : Int)))).symbols_).length c4645]⟩), (127, slp A4422 (Int.toNat k_4639 * 2))]) ⟨rfl, rfl, trivial⟩
        refine op_of_nth rfl <| stVR (i := k_4639) (sz := 2) 1 (⟨[.int .i64 ((rd data4634 (w64 (k_4639 - (1 : Int)))).often_), .slice A4644 ((rd data4634 (w64 (k_4639 - (1 : Int)))).symbols_).length c4645], by simp, by simp [Value.oneCell']⟩ : Row 2) hS rfl rfl hV4636 rfl Tryd.sizeOf112 rfl (hr4637.inb hk4650) fun rw4662 w f4660 hz hV4661 hS => ?_
        obtain ⟨zs4663, hzm⟩ := nameE (data4634.set (Int.toNat k_4639) (T_huff_packet.mk ((rd data4634 (w64 (k_4639 - (1 : Int)))).often_) ((rd data4634 (w64 (k_4639 - (1 : Int)))).symbols_)))
        replace hM := lt_to hzm hM
        have hr4664 := RelL.set (x := (T_huff_packet.mk ((rd data4634 (w64 (k_4639 - (1 : Int)))).often_) ((rd data4634 (w64 (k_4639 - (1 : Int)))).symbols_))) (r := (⟨[.int .i64 ((rd data4634 (w64 (k_4639 - (1 : Int)))).often_), .slice A4644 ((rd data4634 (w64 (k_4639 - (1 : Int)))).symbols_).length c4645], by simp, by simp [Value.oneCell']⟩ : Row 2)) (Int.toNat k_4639) hr4637 (show R_huff_packet p4421 _ _ from ⟨A4644, c4645, rfl, hp4646, hc4647⟩)
        have hz4665 : rw4662.length = rw4633.length := by rw [hz]; exact List.length_set ..
        rw [← hz, ← hzm] at hr4664; clear hz hzm
        have hz4666 := Eq.trans hz4665 hz4638
        refine wpList_nil (then_n ?_)
        replace hst := hS.st
        obtain ⟨hk4668, hM⟩ := wp_chk hM
        obtain ⟨hcl, hmust, hav2, hA⟩ := dnN (vals' := [some (.slice A4422 rw4633.length c4423), some (.int .i64 k_4639), some (.slice A4422 rw4633.length c4423), some (.int .i64 k_4639), some (.int .i64 (w64 (k_4639 - (1 : Int)))), some (.slice A4422 rw4633.length c4423), some (.int .i64 k_4639), some (.int .i64 (w64 (k_4639 - (1 : Int)))), some (slp A4422 (Int.toNat (w64 (k_4639 - (1 : Int))) * 2)), some (.agg ⟨[.int .i64 ((rd data4634 (w64 (k_4639 - (1 : Int)))).often_), .slice A4644 ((rd data4634 (w64 (k_4639 - (1 : Int)))).symbols_).length c4645]⟩), some (.slice A4422 rw4633.length c4423), some (.int .i64 k_4639), some (slp A4422 (Int.toNat k_4639 * 2)), some (.agg ⟨[.int .i64 ((rd data4634 k_4639).often_), .slice A4651 ((rd data4634 k_4639).symbols_).length c4652]⟩), some (slp A4422 (Int.toNat k_4639 * 2)), some undef, some (slp A4422 (Int.toNat (w64 (k_4639 - (1 : Int))) * 2)), none]) 15 [(0, 15), (1, 15), (5, 15), (6, 15), (7, 15), (8, 15), (9, 15), (13, 15), (14, 15), (12, 13), (10, 12), (11, 12)] hA hcl hav hm hpre rfl rfl rfl rfl rfl
        clear hm hav
        refine phq hA hst ho hcl hav2 hmust 17 [2, 3, 4, 16] rfl rfl rfl rfl rfl (by exact ⟨nR rfl rfl rfl rfl rfl (by exact ovE (mv rfl) rfl), nR rfl rfl rfl rfl rfl (by exact ovE (mv rfl) rfl), nR rfl rfl rfl rfl rfl (by exact ovE (bin rfl rfl rfl) rfl), nR rfl rfl rfl rfl rfl (by exact ovE (ixV (lenx hz4665 rfl) rfl Tryd.runUnderlying110 Tryd.sizeOf112 (hV4661.rd (i := 1) rfl) Row.len rfl (hr4664.inb hk4668)) rfl), trivial⟩) fun D l a w ho hcl hav hpre hm hE hk hA hst => ?_
        have hS := (Ss.mk hE hst).env2 (e' := [(126, .agg ⟨[.int .i64 ((rd data4634 k_4639).often_), .slice A4651 ((rd data4634 k_4639).symbols_).length c4652]⟩), (128, slp A4422 (Int.toNat (w64 (k_4639 - (1 : Int))) * 2))]) ⟨rfl, rfl, trivial⟩
        refine op_of_nth rfl <| stVR (i := (w64 (k_4639 - (1 : Int)))) (sz := 2) 1 (⟨[.int .i64 ((rd data4634 k_4639).often_), .slice A4651 ((rd data4634 k_4639).symbols_).length c4652], by simp, by simp [Value.oneCell']⟩ : Row 2) hS rfl rfl hV4661 rfl Tryd.sizeOf112 rfl (hr4664.inb hk4668) fun rw4675 w f4673 hz hV4674 hS => ?_
        obtain ⟨zs4676, hzm⟩ := nameE (zs4663.set (Int.toNat (w64 (k_4639 - (1 : Int)))) (T_huff_packet.mk ((rd data4634 k_4639).often_) ((rd data4634 k_4639).symbols_)))
        replace hM := lt_to hzm hM
        have hr4677 := RelL.set (x := (T_huff_packet.mk ((rd data4634 k_4639).often_) ((rd data4634 k_4639).symbols_))) (r := (⟨[.int .i64 ((rd data4634 k_4639).often_), .slice A4651 ((rd data4634 k_4639).symbols_).length c4652], by simp, by simp [Value.oneCell']⟩ : Row 2)) (Int.toNat (w64 (k_4639 - (1 : Int)))) hr4664 (show R_huff_packet p4421 _ _ from ⟨A4651, c4652, rfl, hp4653, hc4654⟩)
        have hz4678 : rw4675.length = rw4662.length := by rw [hz]; exact List.length_set ..
        rw [← hz, ← hzm] at hr4677; clear hz hzm
        have hz4679 := Eq.trans hz4678 hz4666
        refine wpList_nil (then_n ?_)
        replace hst := hS.st
        obtain ⟨hcl, hmust, hav2, hA⟩ := dnN (vals' := [some (.slice A4422 rw4633.length c4423), some (.int .i64 k_4639), some (.slice A4422 rw4633.length c4423), some (.int .i64 k_4639), some (.int .i64 (w64 (k_4639 - (1 : Int)))), some (.slice A4422 rw4633.length c4423), some (.int .i64 k_4639), some (.int .i64 (w64 (k_4639 - (1 : Int)))), some (slp A4422 (Int.toNat (w64 (k_4639 - (1 : Int))) * 2)), some (.agg ⟨[.int .i64 ((rd data4634 (w64 (k_4639 - (1 : Int)))).often_), .slice A4644 ((rd data4634 (w64 (k_4639 - (1 : Int)))).symbols_).length c4645]⟩), some (.slice A4422 rw4633.length c4423), some (.int .i64 k_4639), some (slp A4422 (Int.toNat k_4639 * 2)), some (.agg ⟨[.int .i64 ((rd data4634 k_4639).often_), .slice A4651 ((rd data4634 k_4639).symbols_).length c4652]⟩), some (slp A4422 (Int.toNat k_4639 * 2)), some undef, some (slp A4422 (Int.toNat (w64 (k_4639 - (1 : Int))) * 2)), some undef]) 17 [(0, 17), (1, 17), (2, 17), (3, 17), (4, 17), (5, 17), (6, 17), (7, 17), (8, 17), (9, 17), (10, 17), (11, 17), (12, 17), (13, 17), (14, 17), (15, 17), (16, 17)] hA hcl hav hm hpre rfl rfl rfl rfl rfl
        clear hm hav
        refine phqE hA hst ho hcl hmust [] rfl rfl rfl trivial fun a w hS => ?_
        replace hS := hS.env2 (e' := [(0, .slice A4422 rw4675.length c4423), (14, .int .i64 i4582), (17, .int .i64 k_4639)]) ⟨(relk (u := .slice A4422 rw4633.length c4423) rfl (by rw [hz4678, hz4665])), rfl, rfl, trivial⟩
        refine blk_n (then_n ?_)
        refine wp_region_list <| st1 hS (mv rfl) rfl fun a w hS => st1 hS (bin rfl rfl rfl) rfl fun a w hS => st1x (v := Value.int .i64) (x0 := (w64 (k_4639 - (1 : Int)))) hS (asg rfl) rfl fun k_4680 a w hz hS => ?_
        have hM := lt_to hz hM; clear hz
        refine wpList_nil <| then_n ?_
        exact hJ4681 _ _ ⟨rw4675, zs4676, f4673, k_4680, hS.to [0, 1] (by kernel_rfl) ⟨rfl, rfl, rfl, trivial⟩, hV4674, hr4677, hz4679, hM⟩
       ·refine wp_exit ?_
        refine then_ex (then_ex (blk_same (then_n ?_)))
        refine wp_ret <| then_ret ?_
        exact s_ret (rs := []) hS rfl rfl (hret rw4633 data4634 f4635 w (wp_ok hM) hV4636 hr4637 hz4638 (hS.st.pick [0, 1] (by kernel_rfl)))
    ·refine wp_skip ?_
     refine then_n ?_
     exact hJ4682 _ _ ⟨hS.to [0, 1] (by kernel_rfl) ⟨rfl, rfl, rfl, rfl, rfl, trivial⟩, hM⟩
   ·intro a w hI
    obtain ⟨hS, hM⟩ := hI
    rw [slices_symMergeCmpFunc_huff_packet__b6e1_b35e.j8] at hM
    refine wp_seq <| wp_region_list <| st1 hS (mv rfl) rfl fun a w hS => st1 hS (mv rfl) rfl fun a w hS => st1 hS (bin rfl rfl rfl) rfl fun a w hS => st1 hS (cvi rfl Tryd.runUnderlying3 Tryd.runUnderlying39) rfl fun a w hS => st1 hS (shr rfl rfl rfl) rfl fun a w hS => st1 hS (cvi rfl Tryd.runUnderlying39 Tryd.runUnderlying3) rfl fun a w hS => st1x (v := Value.int .i64) (x0 := (wr .i64 (ishr .u64 (wr .u64 (w64 (a_4428 + b_4430))) (1 : Int)))) hS (asg rfl) rfl fun mid4683 a w hz hS => ?_
    have hM := lt_to hz hM; clear hz
    refine wpList_nil <| then_n <| wp_seq <| wp_region_list <| st1 hS (mv rfl) rfl fun a w hS => st1 hS (mv rfl) rfl fun a w hS => st1 hS (bin rfl rfl rfl) rfl fun a w hS => st1x (v := Value.int .i64) (x0 := (w64 (mid4683 + m4429))) hS (asg rfl) rfl fun n_4684 a w hz hS => ?_
    have hM := lt_to hz hM; clear hz
    refine wpList_nil <| then_n <| wp_seq <| wp_region_list <| st1 hS (asg rfl) rfl fun a w hS => st1 hS (asg rfl) rfl fun a w hS => wpList_nil <| then_n <| seq_joinJ (fun a w => ∃ (start4687 : Int) (r4688 : Int), Ss 220 [] [(0, .slice A4422 rw4424.length c4423), (1, .int .i64 a_4428), (2, .int .i64 m4429), (3, .int .i64 b_4430), (4, fnv 84 [] []), (18, .int .i64 mid4683), (19, .int .i64 n_4684), (20, .int .i64 start4687), (21, .int .i64 r4688)] H [p4421, f4426] F a w ∧ (slices_symMergeCmpFunc_huff_packet__b6e1_b35e.j9 K (slices_symMergeCmpFunc_huff_packet__b6e1_b35e.r K d) data4420 a_4428 m4429 b_4430 mid4683 n_4684 start4687 r4688).wp kr kp) (fun J4689 hJ4689 => ?_) ?_
    ·refine wp_seq ?_
     refine wp_region_list <| st1 hS (mv rfl) rfl fun a w hS => st1 hS (mv rfl) rfl fun a w hS => st1 hS (bin rfl rfl rfl) rfl fun a w hS => wpList_nil <| then_n <| s_cond hS rfl hM (fun hb4685 hM => ?_) (fun hb4685 hM => ?_)
     ·refine wp_seq ?_
      refine wp_region_list <| st1 hS (mv rfl) rfl fun a w hS => st1 hS (mv rfl) rfl fun a w hS => st1 hS (bin rfl rfl rfl) rfl fun a w hS => st1x (v := Value.int .i64) (x0 := (w64 (n_4684 - b_4430))) hS (asg rfl) rfl fun start4686 a w hz hS => ?_
      have hM := lt_to hz hM; clear hz
      refine wpList_nil <| then_n <| wp_region_list <| st1 hS (mv rfl) rfl fun a w hS => st1 hS (asg rfl) rfl fun a w hS => wpList_nil <| then_n ?_
      exact hJ4689 _ _ ⟨start4686, mid4683, hS.to [0, 1] (by kernel_rfl) ⟨rfl, rfl, rfl, rfl, rfl, rfl, rfl, rfl, rfl, trivial⟩, hM⟩
     ·refine wp_seq ?_
      refine wp_region_list <| st1 hS (mv rfl) rfl fun a w hS => st1 hS (asg rfl) rfl fun a w hS => wpList_nil <| then_n <| wp_region_list <| st1 hS (mv rfl) rfl fun a w hS => st1 hS (asg rfl) rfl fun a w hS => wpList_nil <| then_n ?_
      exact hJ4689 _ _ ⟨a_4428, m4429, hS.to [0, 1] (by kernel_rfl) ⟨rfl, rfl, rfl, rfl, rfl, rfl, rfl, rfl, rfl, trivial⟩, hM⟩
    ·intro a w hI
     obtain ⟨start4687, r4688, hS, hM⟩ := hI
     rw [slices_symMergeCmpFunc_huff_packet__b6e1_b35e.j9] at hM
     refine wp_seq <| wp_region_list <| st1 hS (mv rfl) rfl fun a w hS => st1 hS (bin rfl rfl rfl) rfl fun a w hS => st1x (v := Value.int .i64) (x0 := (w64 (n_4684 - (1 : Int)))) hS (asg rfl) rfl fun p4690 a w hz hS => ?_
     have hM := lt_to hz hM; clear hz
     refine wpList_nil <| then_n <| seq_joinJ (fun a w => ∃ (start4714 : Int), Ss 220 [] [(0, .slice A4422 rw4424.length c4423), (1, .int .i64 a_4428), (2, .int .i64 m4429), (3, .int .i64 b_4430), (4, fnv 84 [] []), (18, .int .i64 mid4683), (19, .int .i64 n_4684), (20, .int .i64 start4714)] H [p4421, f4426] F a w ∧ (slices_symMergeCmpFunc_huff_packet__b6e1_b35e.j11 K (slices_symMergeCmpFunc_huff_packet__b6e1_b35e.r K d) data4420 a_4428 m4429 b_4430 mid4683 n_4684 start4714).wp kr kp) (fun J4715 hJ4715 => ?_) ?_
     ·refine wp_block ?_
      refine s_loopJ (fun k4693 a w => ∃ (start4691 : Int) (r4692 : Int), Ss 220 [] [(0, .slice A4422 rw4424.length c4423), (1, .int .i64 a_4428), (2, .int .i64 m4429), (3, .int .i64 b_4430), (4, fnv 84 [] []), (18, .int .i64 mid4683), (19, .int .i64 n_4684), (20, .int .i64 start4691), (21, .int .i64 r4692), (22, .int .i64 p4690)] H [p4421, f4426] F a w ∧ (slices_symMergeCmpFunc_huff_packet__b6e1_b35e.l10 K (slices_symMergeCmpFunc_huff_packet__b6e1_b35e.r K d) data4420 a_4428 m4429 b_4430 mid4683 n_4684 p4690 k4693 start4691 r4692).wp kr kp) K ?_ ?_ ?_
      ·exact ⟨start4687, r4688, hS.to [0, 1] (by kernel_rfl) ⟨rfl, rfl, rfl, rfl, rfl, rfl, rfl, rfl, rfl, rfl, trivial⟩, hM⟩
      ·intro a w hI; obtain ⟨_, _, _, hM⟩ := hI; exact wp_fail hM
      ·intro k4693 a w hI J4713 hJ4713
       obtain ⟨start4691, r4692, hS, hM⟩ := hI
       rw [slices_symMergeCmpFunc_huff_packet__b6e1_b35e.l10] at hM
       refine wp_seq <| wp_seq <| wp_region_list <| st1 hS (mv rfl) rfl fun a w hS => st1 hS (mv rfl) rfl fun a w hS => st1 hS (bin rfl rfl rfl) rfl fun a w hS => wpList_nil <| then_n <| s_cond hS rfl hM (fun hb4694 hM => ?_) (fun hb4694 hM => ?_)
       ·refine wp_skip ?_
        refine then_n <| wp_block <| wp_seq <| wp_region_list <| st1 hS (mv rfl) rfl fun a w hS => st1 hS (mv rfl) rfl fun a w hS => st1 hS (bin rfl rfl rfl) rfl fun a w hS => st1 hS (cvi rfl Tryd.runUnderlying3 Tryd.runUnderlying39) rfl fun a w hS => st1 hS (shr rfl rfl rfl) rfl fun a w hS => st1 hS (cvi rfl Tryd.runUnderlying39 Tryd.runUnderlying3) rfl fun a w hS => st1x (v := Value.int .i64) (x0 := (wr .i64 (ishr .u64 (wr .u64 (w64 (start4691 + r4692))) (1 : Int)))) hS (asg rfl) rfl fun c_4695 a w hz hS => ?_
        have hM := lt_to hz hM; clear hz
        refine wpList_nil <| then_n <| wp_seq ?_
        obtain ⟨hk4697, hM⟩ := wp_chk hM
        obtain ⟨A4698, c4699, hw4702, hp4700, hc4701⟩ := hr4425.get hk4697
        obtain ⟨hk4704, hM⟩ := wp_chk hM
        obtain ⟨A4705, c4706, hw4709, hp4707, hc4708⟩ := hr4425.get hk4704
        refine draw_begin (vals := [some (fnv 84 [] []), some (.slice A4422 rw4424.length c4423), some (.int .i64 p4690), some (.int .i64 c_4695), some (.int .i64 (w64 (p4690 - c_4695))), some (slp A4422 (Int.toNat (w64 (p4690 - c_4695)) * 2)), some (.agg ⟨[.int .i64 ((rd data4420 (w64 (p4690 - c_4695))).often_), .slice A4698 ((rd data4420 (w64 (p4690 - c_4695))).symbols_).length c4699]⟩), some (.slice A4422 rw4424.length c4423), some (.int .i64 c_4695), some (slp A4422 (Int.toNat c_4695 * 2)), some (.agg ⟨[.int .i64 ((rd data4420 c_4695).often_), .slice A4705 ((rd data4420 c_4695).symbols_).length c4706]⟩), none, none, none]) hS mixed rfl ?_
        intro l w ho hcl hA hst
        refine phq hA hst ho hcl navail nmust 11 [0, 1, 2, 3, 4, 5, 6, 7, 8, 9, 10] rfl rfl rfl rfl rfl (by exact ⟨nR rfl rfl rfl rfl rfl (by exact ovE (mv rfl) rfl), nR rfl rfl rfl rfl rfl (by exact ovE (mv rfl) rfl), nR rfl rfl rfl rfl rfl (by exact ovE (mv rfl) rfl), nR rfl rfl rfl rfl rfl (by exact ovE (mv rfl) rfl), nR rfl rfl rfl rfl rfl (by exact ovE (bin rfl rfl rfl) rfl), nR rfl rfl rfl rfl rfl (by exact ovE (ixV rfl rfl Tryd.runUnderlying110 Tryd.sizeOf112 (hV4427.rd (i := 1) rfl) Row.len rfl (hr4425.inb hk4697)) rfl), nR rfl rfl rfl rfl rfl (by exact ovE (ovE (ldVA rfl (hV4427.rd (i := 1) rfl) Row.len (hr4425.inb hk4697) Tryd.isAgg112 Tryd.sizeOf112 rfl) (congrArg (fun l => Value.agg ⟨l⟩) hw4702)) rfl), nR rfl rfl rfl rfl rfl (by exact ovE (mv rfl) rfl), nR rfl rfl rfl rfl rfl (by exact ovE (mv rfl) rfl), nR rfl rfl rfl rfl rfl (by exact ovE (ixV rfl rfl Tryd.runUnderlying110 Tryd.sizeOf112 (hV4427.rd (i := 1) rfl) Row.len rfl (hr4425.inb hk4704)) rfl), nR rfl rfl rfl rfl rfl (by exact ovE (ovE (ldVA rfl (hV4427.rd (i := 1) rfl) Row.len (hr4425.inb hk4704) Tryd.isAgg112 Tryd.sizeOf112 rfl) (congrArg (fun l => Value.agg ⟨l⟩) hw4709)) rfl), trivial⟩) fun D l a w ho hcl hav hpre hm hE hk hA hst => ?_
        have hS := (Ss.mk hE hst).env2 (e' := [(158, fnv 84 [] []), (164, .agg ⟨[.int .i64 ((rd data4420 (w64 (p4690 - c_4695))).often_), .slice A4698 ((rd data4420 (w64 (p4690 - c_4695))).symbols_).length c4699]⟩), (168, .agg ⟨[.int .i64 ((rd data4420 c_4695).often_), .slice A4705 ((rd data4420 c_4695).symbols_).length c4706]⟩)]) ⟨rfl, rfl, rfl, trivial⟩
        refine op_of_nth rfl <| s_callV hS rfl rfl Tryd.call84 (huff_merged_1_c hG K (T_huff_packet.mk ((rd data4420 (w64 (p4690 - c_4695))).often_) ((rd data4420 (w64 (p4690 - c_4695))).symbols_)) (T_huff_packet.mk ((rd data4420 c_4695).often_) ((rd data4420 c_4695).symbols_)) A4698 c4699 A4705 c4706 (hp4700.rdF (i := 0) rfl) hc4701 (hp4707.rdF (i := 0) rfl) hc4708 (hS.st.part 0 [0, 1] (by kernel_rfl)) (wp_bind hM) (fun x4710 w hM  hst => s_back hS.ev hst.appF rfl fun hS => ?_))
        replace hS : Ss _ _ _ H [p4421, f4426] F _ _ := hS
        refine wpList_nil (then_n ?_)
        replace hst := hS.st
        obtain ⟨hcl, hmust, hav2, hA⟩ := dn (vals' := [some (fnv 84 [] []), some (.slice A4422 rw4424.length c4423), some (.int .i64 p4690), some (.int .i64 c_4695), some (.int .i64 (w64 (p4690 - c_4695))), some (slp A4422 (Int.toNat (w64 (p4690 - c_4695)) * 2)), some (.agg ⟨[.int .i64 ((rd data4420 (w64 (p4690 - c_4695))).often_), .slice A4698 ((rd data4420 (w64 (p4690 - c_4695))).symbols_).length c4699]⟩), some (.slice A4422 rw4424.length c4423), some (.int .i64 c_4695), some (slp A4422 (Int.toNat c_4695 * 2)), some (.agg ⟨[.int .i64 ((rd data4420 c_4695).often_), .slice A4705 ((rd data4420 c_4695).symbols_).length c4706]⟩), some (.int .i64 x4710), some (.bool (decide (x4710 < (0 : Int)))), some (.bool (!(decide (x4710 < (0 : Int)))))]) 11 [(0, 11), (6, 11), (10, 11), (5, 6), (9, 10), (1, 5), (4, 5), (7, 9), (8, 9), (2, 4), (3, 4)] hA hcl hav hm hpre hk rfl rfl rfl rfl rfl rfl rfl
        clear hm hav
        refine phqE hA hst ho hcl hmust [12, 13] rfl rfl rfl (by exact ⟨nR rfl rfl rfl rfl rfl (by exact ovE (bin rfl rfl rfl) rfl), nR rfl rfl rfl rfl rfl (by exact ovE (un rfl rfl) rfl), trivial⟩) fun a w hS => ?_
        replace hS := hS.env2 (e' := [(0, .slice A4422 rw4424.length c4423), (1, .int .i64 a_4428), (2, .int .i64 m4429), (3, .int .i64 b_4430), (4, fnv 84 [] []), (18, .int .i64 mid4683), (19, .int .i64 n_4684), (20, .int .i64 start4691), (21, .int .i64 r4692), (22, .int .i64 p4690), (23, .int .i64 c_4695), (171, .bool (!(decide (x4710 < (0 : Int)))))]) ⟨rfl, rfl, rfl, rfl, rfl, rfl, rfl, rfl, rfl, rfl, rfl, rfl, trivial⟩
        refine then_n <| s_cond hS rfl hM (fun hb4711 hM => ?_) (fun hb4711 hM => ?_)
        ·refine wp_region_list ?_
         refine st1 hS (mv rfl) rfl fun a w hS => st1 hS (bin rfl rfl rfl) rfl fun a w hS => st1x (v := Value.int .i64) (x0 := (w64 (c_4695 + (1 : Int)))) hS (asg rfl) rfl fun start4712 a w hz hS => ?_
         have hM := lt_to hz hM; clear hz
         refine wpList_nil <| blk_n (then_n ?_)
         exact hJ4713 _ _ ⟨start4712, r4692, hS.to [0, 1] (by kernel_rfl) ⟨rfl, rfl, rfl, rfl, rfl, rfl, rfl, rfl, rfl, rfl, trivial⟩, hM⟩
        ·refine wp_region_list ?_
         refine st1 hS (mv rfl) rfl fun a w hS => st1 hS (asg rfl) rfl fun a w hS => wpList_nil <| blk_n (then_n ?_)
         exact hJ4713 _ _ ⟨start4691, c_4695, hS.to [0, 1] (by kernel_rfl) ⟨rfl, rfl, rfl, rfl, rfl, rfl, rfl, rfl, rfl, rfl, trivial⟩, hM⟩
       ·refine wp_exit ?_
        refine then_ex (then_ex (blk_same (then_n ?_)))
        exact hJ4715 _ _ ⟨start4691, hS.to [0, 1] (by kernel_rfl) ⟨rfl, rfl, rfl, rfl, rfl, rfl, rfl, rfl, trivial⟩, hM⟩
     ·intro a w hI
      obtain ⟨start4714, hS, hM⟩ := hI
      rw [slices_symMergeCmpFunc_huff_packet__b6e1_b35e.j11] at hM
      refine wp_seq <| wp_region_list <| st1 hS (mv rfl) rfl fun a w hS => st1 hS (mv rfl) rfl fun a w hS => st1 hS (bin rfl rfl rfl) rfl fun a w hS => st1x (v := Value.int .i64) (x0 := (w64 (n_4684 - start4714))) hS (asg rfl) rfl fun end_4716 a w hz hS => ?_
      have hM := lt_to hz hM; clear hz
      refine wpList_nil <| then_n <| seq_joinJ (fun a w => ∃ (rw4725 : List (Row 2)) (data4726 : (List T_huff_packet)) (f4727 : Frag), Ss 220 [] [(0, .slice A4422 rw4725.length c4423), (1, .int .i64 a_4428), (3, .int .i64 b_4430), (4, fnv 84 [] []), (18, .int .i64 mid4683), (20, .int .i64 start4714), (24, .int .i64 end_4716)] H [p4421, f4727] F a w ∧ (Vec 112 (Row.v (sz := 2)) 2 A4422 rw4725 c4423 f4727) ∧ (RelL (R_huff_packet p4421) data4726 rw4725) ∧ (rw4725.length = rw4424.length) ∧ (slices_symMergeCmpFunc_huff_packet__b6e1_b35e.j12 K (slices_symMergeCmpFunc_huff_packet__b6e1_b35e.r K d) a_4428 b_4430 mid4683 start4714 end_4716 data4726).wp kr kp) (fun J4731 hJ4731 => ?_) ?_
      ·refine wp_seq ?_
       refine wp_region_list <| st1 hS (mv rfl) rfl fun a w hS => st1 hS (mv rfl) rfl fun a w hS => st1 hS (bin rfl rfl rfl) rfl fun a w hS => st1 hS (mv rfl) rfl fun a w hS => g_op 3 true 181 (b := (decide (start4714 < m4429))) (r := (decide (m4429 < end_4716))) hS rfl rfl rfl rfl rfl rfl rfl (fun hb a w hS K hK => ?_) rfl fun a w hS => ?_
       ·refine st1g hS rfl rfl rfl hb (mv rfl) rfl fun a w hS => ?_
        refine st1g hS rfl rfl rfl hb (mv rfl) rfl fun a w hS => st1g hS rfl rfl rfl hb (bin rfl rfl rfl) rfl fun a w hS => ?_
        exact wpList_nil (hK _ _ (hS.up 3 rfl rfl))
       refine wpList_nil <| then_n <| s_cond hS rfl hM (fun hb4717 hM => ?_) (fun hb4717 hM => ?_)
       ·refine wp_region_list ?_
        refine st1 hS (mv rfl) rfl fun a w hS => st1 hS (mv rfl) rfl fun a w hS => st1 hS (mv rfl) rfl fun a w hS => st1 hS (mv rfl) rfl fun a w hS => st1 hS (mv rfl) rfl fun a w hS => s_call hS rfl Tryd.call108 (slices_rotateCmpFunc_huff_packet__b6e1_b35e_c hG K data4420 start4714 m4429 end_4716 p4421 A4422 c4423 rw4424 f4426 hr4425 hV4427 (hS.st.part 2 [0, 1] (by kernel_rfl)) (wp_bind hM) (fun rw4718 data4719 f4720 w hM h4721 h4722 h4723 hst => s_back hS.ev hst.appF rfl fun hS => ?_))
        replace hS : Ss _ _ _ H [p4421, f4720] F _ _ := hS
        have hz4724 := Eq.trans h4723 hz4432
        replace hS := hS.re 0 (u := .slice A4422 rw4424.length c4423) (v := .slice A4422 rw4718.length c4423) rfl (by rw [h4723])
        replace hS := hS.re 186 (u := .slice A4422 rw4424.length c4423) (v := .slice A4422 rw4718.length c4423) rfl (by rw [h4723])
        refine wpList_nil <| then_n ?_
        exact hJ4731 _ _ ⟨rw4718, data4719, f4720, hS.to [0, 1] (by kernel_rfl) ⟨rfl, rfl, rfl, rfl, rfl, rfl, rfl, trivial⟩, h4721, h4722, hz4724, hM⟩
       ·refine wp_skip ?_
        refine then_n ?_
        exact hJ4731 _ _ ⟨rw4424, data4420, f4426, hS.to [0, 1] (by kernel_rfl) ⟨rfl, rfl, rfl, rfl, rfl, rfl, rfl, trivial⟩, hV4427, hr4425, hz4432, hM⟩
      ·intro a w hI
       obtain ⟨rw4725, data4726, f4727, hS, hV4728, hr4729, hz4730, hM⟩ := hI
       rw [slices_symMergeCmpFunc_huff_packet__b6e1_b35e.j12] at hM
       refine seq_joinJ (fun a w => ∃ (rw4740 : List (Row 2)) (data4741 : (List T_huff_packet)) (f4742 : Frag), Ss 220 [] [(0, .slice A4422 rw4740.length c4423), (3, .int .i64 b_4430), (4, fnv 84 [] []), (18, .int .i64 mid4683), (24, .int .i64 end_4716)] H [p4421, f4742] F a w ∧ (Vec 112 (Row.v (sz := 2)) 2 A4422 rw4740 c4423 f4742) ∧ (RelL (R_huff_packet p4421) data4741 rw4740) ∧ (rw4740.length = rw4424.length) ∧ (slices_symMergeCmpFunc_huff_packet__b6e1_b35e.j13 K (slices_symMergeCmpFunc_huff_packet__b6e1_b35e.r K d) b_4430 mid4683 end_4716 data4741).wp kr kp) (fun J4746 hJ4746 => ?_) ?_
       ·refine wp_seq ?_
        refine wp_region_list <| st1 hS (mv rfl) rfl fun a w hS => st1 hS (mv rfl) rfl fun a w hS => st1 hS (bin rfl rfl rfl) rfl fun a w hS => st1 hS (mv rfl) rfl fun a w hS => g_op 3 true 195 (b := (decide (a_4428 < start4714))) (r := (decide (start4714 < mid4683))) hS rfl rfl rfl rfl rfl rfl rfl (fun hb a w hS K hK => ?_) rfl fun a w hS => ?_
        ·refine st1g hS rfl rfl rfl hb (mv rfl) rfl fun a w hS => ?_
         refine st1g hS rfl rfl rfl hb (mv rfl) rfl fun a w hS => st1g hS rfl rfl rfl hb (bin rfl rfl rfl) rfl fun a w hS => ?_
         exact wpList_nil (hK _ _ (hS.up 3 rfl rfl))
        refine wpList_nil <| then_n <| s_cond hS rfl hM (fun hb4732 hM => ?_) (fun hb4732 hM => ?_)
        ·refine wp_region_list ?_
         refine st1 hS (mv rfl) rfl fun a w hS => st1 hS (mv rfl) rfl fun a w hS => st1 hS (mv rfl) rfl fun a w hS => st1 hS (mv rfl) rfl fun a w hS => st1 hS (mv rfl) rfl fun a w hS => s_call hS rfl Tryd.call100 (ih hG  data4726 a_4428 start4714 mid4683 p4421 A4422 c4423 rw4725 f4727 hr4729 hV4728 (hS.st.part 2 [0, 1] (by kernel_rfl)) (wp_bind hM) (fun rw4733 data4734 f4735 w hM h4736 h4737 h4738 hst => s_back hS.ev hst.appF rfl fun hS => ?_))
         replace hS : Ss _ _ _ H [p4421, f4735] F _ _ := hS
         have hz4739 := Eq.trans h4738 hz4730
         replace hS := hS.re 0 (u := .slice A4422 rw4725.length c4423) (v := .slice A4422 rw4733.length c4423) rfl (by rw [h4738])
         replace hS := hS.re 200 (u := .slice A4422 rw4725.length c4423) (v := .slice A4422 rw4733.length c4423) rfl (by rw [h4738])
         refine wpList_nil <| then_n ?_
         exact hJ4746 _ _ ⟨rw4733, data4734, f4735, hS.to [0, 1] (by kernel_rfl) ⟨rfl, rfl, rfl, rfl, rfl, trivial⟩, h4736, h4737, hz4739, hM⟩
        ·refine wp_skip ?_
         refine then_n ?_
         exact hJ4746 _ _ ⟨rw4725, data4726, f4727, hS.to [0, 1] (by kernel_rfl) ⟨rfl, rfl, rfl, rfl, rfl, trivial⟩, hV4728, hr4729, hz4730, hM⟩
       ·intro a w hI
        obtain ⟨rw4740, data4741, f4742, hS, hV4743, hr4744, hz4745, hM⟩ := hI
        rw [slices_symMergeCmpFunc_huff_packet__b6e1_b35e.j13] at hM
        refine wp_seq <| wp_region_list <| st1 hS (mv rfl) rfl fun a w hS => st1 hS (mv rfl) rfl fun a w hS => st1 hS (bin rfl rfl rfl) rfl fun a w hS => st1 hS (mv rfl) rfl fun a w hS => g_op 3 true 209 (b := (decide (mid4683 < end_4716))) (r := (decide (end_4716 < b_4430))) hS rfl rfl rfl rfl rfl rfl rfl (fun hb a w hS K hK => ?_) rfl fun a w hS => ?_
        ·refine st1g hS rfl rfl rfl hb (mv rfl) rfl fun a w hS => ?_
         refine st1g hS rfl rfl rfl hb (mv rfl) rfl fun a w hS => st1g hS rfl rfl rfl hb (bin rfl rfl rfl) rfl fun a w hS => ?_
         exact wpList_nil (hK _ _ (hS.up 3 rfl rfl))
        refine wpList_nil <| then_n <| s_cond hS rfl hM (fun hb4747 hM => ?_) (fun hb4747 hM => ?_)
        ·refine wp_region_list ?_
         refine st1 hS (mv rfl) rfl fun a w hS => st1 hS (mv rfl) rfl fun a w hS => st1 hS (mv rfl) rfl fun a w hS => st1 hS (mv rfl) rfl fun a w hS => st1 hS (mv rfl) rfl fun a w hS => s_call hS rfl Tryd.call100 (ih hG  data4741 mid4683 end_4716 b_4430 p4421 A4422 c4423 rw4740 f4742 hr4744 hV4743 (hS.st.part 2 [0, 1] (by kernel_rfl)) (wp_bind hM) (fun rw4748 data4749 f4750 w hM h4751 h4752 h4753 hst => s_back hS.ev hst.appF rfl fun hS => ?_))
         replace hS : Ss _ _ _ H [p4421, f4750] F _ _ := hS
         have hz4754 := Eq.trans h4753 hz4745
         replace hS := hS.re 0 (u := .slice A4422 rw4740.length c4423) (v := .slice A4422 rw4748.length c4423) rfl (by rw [h4753])
         replace hS := hS.re 214 (u := .slice A4422 rw4740.length c4423) (v := .slice A4422 rw4748.length c4423) rfl (by rw [h4753])
         refine wpList_nil ?_
         exact s_end (rs := []) hS rfl rfl (hret rw4748 data4749 f4750 w (wp_ok hM) h4751 h4752 hz4754 (hS.st.pick [0, 1] (by kernel_rfl)))
        ·refine wp_skip ?_
         exact s_end (rs := []) hS rfl rfl (hret rw4740 data4741 f4742 w (wp_ok hM) hV4743 hr4744 hz4745 (hS.st.pick [0, 1] (by kernel_rfl)))

theorem slices_symMergeCmpFunc_huff_packet__b6e1_b35e_c {H : Imm} {F : List Frag} {w : World} {R : Ending → World → Prop} {kr : (List T_huff_packet) → Prop} {kp : Value → Prop} (hG : Gl H) (K : Nat) (data4420 : List T_huff_packet) (a_4428 : Int) (m4429 : Int) (b_4430 : Int) (p4421 : Frag) (A4422 : Option Addr) (c4423 : Nat) (rw4424 : List (Row 2)) (f4426 : Frag) (hr4425 : RelL (R_huff_packet p4421) data4420 rw4424) (hV4427 : Vec 112 (Row.v (sz := 2)) 2 A4422 rw4424 c4423 f4426)
    (hS : St w H [p4421, f4426] F) (hm : (slices_symMergeCmpFunc_huff_packet__b6e1_b35e.m K data4420 a_4428 m4429 b_4430).wp kr kp)
    (hret : ∀ (rw4755 : List (Row 2)) (data4756 : (List T_huff_packet)) (f4757 : Frag) (w : World), kr data4756 → (Vec 112 (Row.v (sz := 2)) 2 A4422 rw4755 c4423 f4757) → (RelL (R_huff_packet p4421) data4756 rw4755) → (rw4755.length = rw4424.length) → St w H [p4421, f4757] F → R (.returned (.tuple ⟨[]⟩)) w) :
    Calls Tryd.prog 100 ⟨[.slice A4422 rw4424.length c4423, .int .i64 a_4428, .int .i64 m4429, .int .i64 b_4430, fnv 84 [] []]⟩ w R := slices_symMergeCmpFunc_huff_packet__b6e1_b35e_cr K K hG data4420 a_4428 m4429 b_4430 p4421 A4422 c4423 rw4424 f4426 hr4425 hV4427 hS hm hret

theorem slices_stableCmpFunc_huff_packet__b6e1_c92d_c {H : Imm} {F : List Frag} {w : World} {R : Ending → World → Prop} {kr : (List T_huff_packet) → Prop} {kp : Value → Prop} (hG : Gl H) (K : Nat) (data3488 : List T_huff_packet) (n_3496 : Int) (p3489 : Frag) (A3490 : Option Addr) (c3491 : Nat) (rw3492 : List (Row 2)) (f3494 : Frag) (hr3493 : RelL (R_huff_packet p3489) data3488 rw3492) (hV3495 : Vec 112 (Row.v (sz := 2)) 2 A3490 rw3492 c3491 f3494)
    (hS : St w H [p3489, f3494] F) (hm : (slices_stableCmpFunc_huff_packet__b6e1_c92d.m K data3488 n_3496).wp kr kp)
    (hret : ∀ (rw4891 : List (Row 2)) (data4892 : (List T_huff_packet)) (f4893 : Frag) (w : World), kr data4892 → (Vec 112 (Row.v (sz := 2)) 2 A3490 rw4891 c3491 f4893) → (RelL (R_huff_packet p3489) data4892 rw4891) → (rw4891.length = rw3492.length) → St w H [p3489, f4893] F → R (.returned (.tuple ⟨[]⟩)) w) :
    Calls Tryd.prog 81 ⟨[.slice A3490 rw3492.length c3491, .int .i64 n_3496, fnv 84 [] []]⟩ w R := by
 refine enter Tryd.func81 rfl Tryd.ntmps81 rfl hS fun a w hS => ?_
 have hM := hm; clear hm
 rw [slices_stableCmpFunc_huff_packet__b6e1_c92d.m] at hM
 have hs3497 : ∀ q ∈ p3489, q ∈ p3489 := fun _ h => h
 have hz3498 : rw3492.length = rw3492.length := rfl
 refine wp_seq <| wp_region_list <| st1 hS (asg rfl) rfl fun a w hS => wpList_nil <| then_n <| wp_seq <| wp_region_list <| st1 hS (mv rfl) rfl fun a w hS => st1 hS (asg rfl) rfl fun a w hS => st1 hS (asg rfl) rfl fun a w hS => wpList_nil <| then_n <| seq_joinJ (fun a w => ∃ (rw3867 : List (Row 2)) (data3868 : (List T_huff_packet)) (f3869 : Frag) (a_3873 : Int), Ss 63 [] [(0, .slice A3490 rw3867.length c3491), (1, .int .i64 n_3496), (2, fnv 84 [] []), (6, .int .i64 (20 : Int)), (7, .int .i64 a_3873)] H [p3489, f3869] F a w ∧ (Vec 112 (Row.v (sz := 2)) 2 A3490 rw3867 c3491 f3869) ∧ (RelL (R_huff_packet p3489) data3868 rw3867) ∧ (rw3867.length = rw3492.length) ∧ (slices_stableCmpFunc_huff_packet__b6e1_c92d.j2 K n_3496 data3868 a_3873).wp kr kp) (fun J3874 hJ3874 => ?_) ?_
 ·refine wp_block ?_
  refine s_loopJ (fun k3856 a w => ∃ (rw3848 : List (Row 2)) (data3849 : (List T_huff_packet)) (f3850 : Frag) (a_3854 : Int) (b_3855 : Int), Ss 63 [] [(0, .slice A3490 rw3848.length c3491), (1, .int .i64 n_3496), (2, fnv 84 [] []), (6, .int .i64 (20 : Int)), (7, .int .i64 a_3854), (8, .int .i64 b_3855)] H [p3489, f3850] F a w ∧ (Vec 112 (Row.v (sz := 2)) 2 A3490 rw3848 c3491 f3850) ∧ (RelL (R_huff_packet p3489) data3849 rw3848) ∧ (rw3848.length = rw3492.length) ∧ (slices_stableCmpFunc_huff_packet__b6e1_c92d.l1 K n_3496 k3856 data3849 a_3854 b_3855).wp kr kp) K ?_ ?_ ?_
  ·exact ⟨rw3492, data3488, f3494, (0 : Int), (20 : Int), hS.to [0, 1] (by kernel_rfl) ⟨rfl, rfl, rfl, rfl, rfl, rfl, trivial⟩, hV3495, hr3493, hz3498, hM⟩
  ·intro a w hI; obtain ⟨_, _, _, _, _, _, _, _, _, hM⟩ := hI; exact wp_fail hM
  ·intro k3856 a w hI J3866 hJ3866
   obtain ⟨rw3848, data3849, f3850, a_3854, b_3855, hS, hV3851, hr3852, hz3853, hM⟩ := hI
   rw [slices_stableCmpFunc_huff_packet__b6e1_c92d.l1] at hM
   refine wp_seq <| wp_seq <| wp_region_list <| st1 hS (mv rfl) rfl fun a w hS => st1 hS (mv rfl) rfl fun a w hS => st1 hS (bin rfl rfl rfl) rfl fun a w hS => wpList_nil <| then_n <| s_cond hS rfl hM (fun hb3857 hM => ?_) (fun hb3857 hM => ?_)
   ·refine wp_skip ?_
    refine then_n <| wp_block <| wp_seq <| wp_region_list <| st1 hS (mv rfl) rfl fun a w hS => st1 hS (mv rfl) rfl fun a w hS => st1 hS (mv rfl) rfl fun a w hS => st1 hS (mv rfl) rfl fun a w hS => s_call hS rfl Tryd.call99 (slices_insertionSortCmpFunc_huff_packet__b6e1_dee5_c hG K data3849 a_3854 b_3855 p3489 A3490 c3491 rw3848 f3850 hr3852 hV3851 (hS.st.part 2 [0, 1] (by kernel_rfl)) (wp_bind hM) (fun rw3858 data3859 f3860 w hM h3861 h3862 h3863 hst => s_back hS.ev hst.appF rfl fun hS => ?_))
    replace hS : Ss _ _ _ H [p3489, f3860] F _ _ := hS
    have hz3864 := Eq.trans h3863 hz3853
    replace hS := hS.re 0 (u := .slice A3490 rw3848.length c3491) (v := .slice A3490 rw3858.length c3491) rfl (by rw [h3863])
    replace hS := hS.re 14 (u := .slice A3490 rw3848.length c3491) (v := .slice A3490 rw3858.length c3491) rfl (by rw [h3863])
    refine wpList_nil <| then_n <| wp_seq <| wp_region_list <| st1 hS (mv rfl) rfl fun a w hS => st1 hS (asg rfl) rfl fun a w hS => wpList_nil <| then_n <| wp_region_list <| st1 hS (mv rfl) rfl fun a w hS => st1 hS (mv rfl) rfl fun a w hS => st1 hS (bin rfl rfl rfl) rfl fun a w hS => st1x (v := Value.int .i64) (x0 := (w64 (b_3855 + (20 : Int)))) hS (asg rfl) rfl fun b_3865 a w hz hS => ?_
    have hM := lt_to hz hM; clear hz
    refine wpList_nil <| blk_n (then_n ?_)
    exact hJ3866 _ _ ⟨rw3858, data3859, f3860, b_3855, b_3865, hS.to [0, 1] (by kernel_rfl) ⟨rfl, rfl, rfl, rfl, rfl, rfl, trivial⟩, h3861, h3862, hz3864, hM⟩
   ·refine wp_exit ?_
    refine then_ex (then_ex (blk_same (then_n ?_)))
    exact hJ3874 _ _ ⟨rw3848, data3849, f3850, a_3854, hS.to [0, 1] (by kernel_rfl) ⟨rfl, rfl, rfl, rfl, rfl, trivial⟩, hV3851, hr3852, hz3853, hM⟩
 ·intro a w hI
  obtain ⟨rw3867, data3868, f3869, a_3873, hS, hV3870, hr3871, hz3872, hM⟩ := hI
  rw [slices_stableCmpFunc_huff_packet__b6e1_c92d.j2] at hM
  refine wp_seq <| wp_region_list <| st1 hS (mv rfl) rfl fun a w hS => st1 hS (mv rfl) rfl fun a w hS => st1 hS (mv rfl) rfl fun a w hS => st1 hS (mv rfl) rfl fun a w hS => s_call hS rfl Tryd.call99 (slices_insertionSortCmpFunc_huff_packet__b6e1_dee5_c hG K data3868 a_3873 n_3496 p3489 A3490 c3491 rw3867 f3869 hr3871 hV3870 (hS.st.part 2 [0, 1] (by kernel_rfl)) (wp_bind hM) (fun rw3875 data3876 f3877 w hM h3878 h3879 h3880 hst => s_back hS.ev hst.appF rfl fun hS => ?_))
  replace hS : Ss _ _ _ H [p3489, f3877] F _ _ := hS
  have hz3881 := Eq.trans h3880 hz3872
  replace hS := hS.re 0 (u := .slice A3490 rw3867.length c3491) (v := .slice A3490 rw3875.length c3491) rfl (by rw [h3880])
  replace hS := hS.re 23 (u := .slice A3490 rw3867.length c3491) (v := .slice A3490 rw3875.length c3491) rfl (by rw [h3880])
  refine wpList_nil <| then_n <| wp_block <| s_loopJ (fun k4829 a w => ∃ (rw4822 : List (Row 2)) (data4823 : (List T_huff_packet)) (f4824 : Frag) (blockSize4828 : Int), Ss 63 [] [(0, .slice A3490 rw4822.length c3491), (1, .int .i64 n_3496), (2, fnv 84 [] []), (6, .int .i64 blockSize4828)] H [p3489, f4824] F a w ∧ (Vec 112 (Row.v (sz := 2)) 2 A3490 rw4822 c3491 f4824) ∧ (RelL (R_huff_packet p3489) data4823 rw4822) ∧ (rw4822.length = rw3492.length) ∧ (slices_stableCmpFunc_huff_packet__b6e1_c92d.l3 K n_3496 k4829 data4823 blockSize4828).wp kr kp) K ?_ ?_ ?_
  ·exact ⟨rw3875, data3876, f3877, (20 : Int), hS.to [0, 1] (by kernel_rfl) ⟨rfl, rfl, rfl, rfl, trivial⟩, h3878, h3879, hz3881, hM⟩
  ·intro a w hI; obtain ⟨_, _, _, _, _, _, _, _, hM⟩ := hI; exact wp_fail hM
  ·intro k4829 a w hI J4890 hJ4890
   obtain ⟨rw4822, data4823, f4824, blockSize4828, hS, hV4825, hr4826, hz4827, hM⟩ := hI
   rw [slices_stableCmpFunc_huff_packet__b6e1_c92d.l3] at hM
   refine wp_seq <| wp_seq <| wp_region_list <| st1 hS (mv rfl) rfl fun a w hS => st1 hS (mv rfl) rfl fun a w hS => st1 hS (bin rfl rfl rfl) rfl fun a w hS => wpList_nil <| then_n <| s_cond hS rfl hM (fun hb4830 hM => ?_) (fun hb4830 hM => ?_)
   ·refine wp_skip ?_
    refine then_n <| wp_block <| wp_seq <| wp_region_list <| st1 hS (mv rfl) rfl fun a w hS => st1 hS (bin rfl rfl rfl) rfl fun a w hS => st1 hS (asg rfl) rfl fun a w hS => st1x (v := Value.int .i64) (x0 := (w64 ((2 : Int) * blockSize4828))) hS (asg rfl) rfl fun b_4831 a w hz hS => ?_
    have hM := lt_to hz hM; clear hz
    refine wpList_nil <| then_n <| seq_joinJ (fun a w => ∃ (rw4871 : List (Row 2)) (data4872 : (List T_huff_packet)) (f4873 : Frag) (a_4877 : Int), Ss 63 [] [(0, .slice A3490 rw4871.length c3491), (1, .int .i64 n_3496), (2, fnv 84 [] []), (6, .int .i64 blockSize4828), (7, .int .i64 a_4877)] H [p3489, f4873] F a w ∧ (Vec 112 (Row.v (sz := 2)) 2 A3490 rw4871 c3491 f4873) ∧ (RelL (R_huff_packet p3489) data4872 rw4871) ∧ (rw4871.length = rw3492.length) ∧ (slices_stableCmpFunc_huff_packet__b6e1_c92d.j5 K (slices_stableCmpFunc_huff_packet__b6e1_c92d.l3 K n_3496 k4829) n_3496 blockSize4828 data4872 a_4877).wp kr kp) (fun J4878 hJ4878 => ?_) ?_
    ·refine wp_block ?_
     refine s_loopJ (fun k4860 a w => ∃ (rw4852 : List (Row 2)) (data4853 : (List T_huff_packet)) (f4854 : Frag) (a_4858 : Int) (b_4859 : Int), Ss 63 [] [(0, .slice A3490 rw4852.length c3491), (1, .int .i64 n_3496), (2, fnv 84 [] []), (6, .int .i64 blockSize4828), (7, .int .i64 a_4858), (8, .int .i64 b_4859)] H [p3489, f4854] F a w ∧ (Vec 112 (Row.v (sz := 2)) 2 A3490 rw4852 c3491 f4854) ∧ (RelL (R_huff_packet p3489) data4853 rw4852) ∧ (rw4852.length = rw3492.length) ∧ (slices_stableCmpFunc_huff_packet__b6e1_c92d.l4 K (slices_stableCmpFunc_huff_packet__b6e1_c92d.l3 K n_3496 k4829) n_3496 blockSize4828 k4860 data4853 a_4858 b_4859).wp kr kp) K ?_ ?_ ?_
     ·exact ⟨rw4822, data4823, f4824, (0 : Int), b_4831, hS.to [0, 1] (by kernel_rfl) ⟨rfl, rfl, rfl, rfl, rfl, rfl, trivial⟩, hV4825, hr4826, hz4827, hM⟩
     ·intro a w hI; obtain ⟨_, _, _, _, _, _, _, _, _, hM⟩ := hI; exact wp_fail hM
     ·intro k4860 a w hI J4870 hJ4870
      obtain ⟨rw4852, data4853, f4854, a_4858, b_4859, hS, hV4855, hr4856, hz4857, hM⟩ := hI
      rw [slices_stableCmpFunc_huff_packet__b6e1_c92d.l4] at hM
      refine wp_seq <| wp_seq <| wp_region_list <| st1 hS (mv rfl) rfl fun a w hS => st1 hS (mv rfl) rfl fun a w hS => st1 hS (bin rfl rfl rfl) rfl fun a w hS => wpList_nil <| then_n <| s_cond hS rfl hM (fun hb4861 hM => ?_) (fun hb4861 hM => ?_)
      ·refine wp_skip ?_
       refine then_n <| wp_block <| wp_seq <| wp_region_list <| st1 hS (mv rfl) rfl fun a w hS => st1 hS (mv rfl) rfl fun a w hS => st1 hS (mv rfl) rfl fun a w hS => st1 hS (mv rfl) rfl fun a w hS => st1 hS (bin rfl rfl rfl) rfl fun a w hS => st1 hS (mv rfl) rfl fun a w hS => st1 hS (mv rfl) rfl fun a w hS => s_call hS rfl Tryd.call100 (slices_symMergeCmpFunc_huff_packet__b6e1_b35e_c hG K data4853 a_4858 (w64 (a_4858 + blockSize4828)) b_4859 p3489 A3490 c3491 rw4852 f4854 hr4856 hV4855 (hS.st.part 2 [0, 1] (by kernel_rfl)) (wp_bind hM) (fun rw4862 data4863 f4864 w hM h4865 h4866 h4867 hst => s_back hS.ev hst.appF rfl fun hS => ?_))
       replace hS : Ss _ _ _ H [p3489, f4864] F _ _ := hS
       have hz4868 := Eq.trans h4867 hz4857
       replace hS := hS.re 0 (u := .slice A3490 rw4852.length c3491) (v := .slice A3490 rw4862.length c3491) rfl (by rw [h4867])
       replace hS := hS.re 36 (u := .slice A3490 rw4852.length c3491) (v := .slice A3490 rw4862.length c3491) rfl (by rw [h4867])
       refine wpList_nil <| then_n <| wp_seq <| wp_region_list <| st1 hS (mv rfl) rfl fun a w hS => st1 hS (asg rfl) rfl fun a w hS => wpList_nil <| then_n <| wp_region_list <| st1 hS (mv rfl) rfl fun a w hS => st1 hS (mv rfl) rfl fun a w hS => st1 hS (bin rfl rfl rfl) rfl fun a w hS => st1 hS (bin rfl rfl rfl) rfl fun a w hS => st1x (v := Value.int .i64) (x0 := (w64 (b_4859 + (w64 ((2 : Int) * blockSize4828))))) hS (asg rfl) rfl fun b_4869 a w hz hS => ?_
       have hM := lt_to hz hM; clear hz
       refine wpList_nil <| blk_n (then_n ?_)
       exact hJ4870 _ _ ⟨rw4862, data4863, f4864, b_4859, b_4869, hS.to [0, 1] (by kernel_rfl) ⟨rfl, rfl, rfl, rfl, rfl, rfl, trivial⟩, h4865, h4866, hz4868, hM⟩
      ·refine wp_exit ?_
       refine then_ex (then_ex (blk_same (then_n ?_)))
       exact hJ4878 _ _ ⟨rw4852, data4853, f4854, a_4858, hS.to [0, 1] (by kernel_rfl) ⟨rfl, rfl, rfl, rfl, rfl, trivial⟩, hV4855, hr4856, hz4857, hM⟩
    ·intro a w hI
     obtain ⟨rw4871, data4872, f4873, a_4877, hS, hV4874, hr4875, hz4876, hM⟩ := hI
     rw [slices_stableCmpFunc_huff_packet__b6e1_c92d.j5] at hM
     refine wp_seq <| wp_seq <| wp_region_list <| st1 hS (mv rfl) rfl fun a w hS => st1 hS (mv rfl) rfl fun a w hS => st1 hS (bin rfl rfl rfl) rfl fun a w hS => st1x (v := Value.int .i64) (x0 := (w64 (a_4877 + blockSize4828))) hS (asg rfl) rfl fun m4879 a w hz hS => ?_
     have hM := lt_to hz hM; clear hz
     refine wpList_nil <| then_n <| wp_seq <| wp_region_list <| st1 hS (mv rfl) rfl fun a w hS => st1 hS (mv rfl) rfl fun a w hS => st1 hS (bin rfl rfl rfl) rfl fun a w hS => wpList_nil <| then_n <| s_cond hS rfl hM (fun hb4880 hM => ?_) (fun hb4880 hM => ?_)
     ·refine wp_region_list ?_
      refine st1 hS (mv rfl) rfl fun a w hS => st1 hS (mv rfl) rfl fun a w hS => st1 hS (mv rfl) rfl fun a w hS => st1 hS (mv rfl) rfl fun a w hS => st1 hS (mv rfl) rfl fun a w hS => s_call hS rfl Tryd.call100 (slices_symMergeCmpFunc_huff_packet__b6e1_b35e_c hG K data4872 a_4877 m4879 n_3496 p3489 A3490 c3491 rw4871 f4873 hr4875 hV4874 (hS.st.part 2 [0, 1] (by kernel_rfl)) (wp_bind hM) (fun rw4881 data4882 f4883 w hM h4884 h4885 h4886 hst => s_back hS.ev hst.appF rfl fun hS => ?_))
      replace hS : Ss _ _ _ H [p3489, f4883] F _ _ := hS
      have hz4887 := Eq.trans h4886 hz4876
      replace hS := hS.re 0 (u := .slice A3490 rw4871.length c3491) (v := .slice A3490 rw4881.length c3491) rfl (by rw [h4886])
      replace hS := hS.re 55 (u := .slice A3490 rw4871.length c3491) (v := .slice A3490 rw4881.length c3491) rfl (by rw [h4886])
      refine wpList_nil <| then_n <| wp_region_list <| st1 hS (mv rfl) rfl fun a w hS => st1 hS (bin rfl rfl rfl) rfl fun a w hS => st1x (v := Value.int .i64) (x0 := (w64 (blockSize4828 * (2 : Int)))) hS (asg rfl) rfl fun blockSize4888 a w hz hS => ?_
      have hM := lt_to hz hM; clear hz
      refine wpList_nil <| blk_n (then_n ?_)
      exact hJ4890 _ _ ⟨rw4881, data4882, f4883, blockSize4888, hS.to [0, 1] (by kernel_rfl) ⟨rfl, rfl, rfl, rfl, trivial⟩, h4884, h4885, hz4887, hM⟩
     ·refine wp_skip ?_
      refine then_n <| wp_region_list <| st1 hS (mv rfl) rfl fun a w hS => st1 hS (bin rfl rfl rfl) rfl fun a w hS => st1x (v := Value.int .i64) (x0 := (w64 (blockSize4828 * (2 : Int)))) hS (asg rfl) rfl fun blockSize4889 a w hz hS => ?_
      have hM := lt_to hz hM; clear hz
      refine wpList_nil <| blk_n (then_n ?_)
      exact hJ4890 _ _ ⟨rw4871, data4872, f4873, blockSize4889, hS.to [0, 1] (by kernel_rfl) ⟨rfl, rfl, rfl, rfl, trivial⟩, hV4874, hr4875, hz4876, hM⟩
   ·refine wp_exit ?_
    refine then_ex (then_ex (blk_same ?_))
    exact s_end (rs := []) hS rfl rfl (hret rw4822 data4823 f4824 w (wp_ok hM) hV4825 hr4826 hz4827 (hS.st.pick [0, 1] (by kernel_rfl)))

theorem slices_SortStableFunc___huff_packet_huff_packet__b6e1_f734_c {H : Imm} {F : List Frag} {w : World} {R : Ending → World → Prop} {kr : (List T_huff_packet) → Prop} {kp : Value → Prop} (hG : Gl H) (K : Nat) (x3478 : List T_huff_packet) (p3479 : Frag) (A3480 : Option Addr) (c3481 : Nat) (rw3482 : List (Row 2)) (f3484 : Frag) (hr3483 : RelL (R_huff_packet p3479) x3478 rw3482) (hV3485 : Vec 112 (Row.v (sz := 2)) 2 A3480 rw3482 c3481 f3484)
    (hS : St w H [p3479, f3484] F) (hm : (slices_SortStableFunc___huff_packet_huff_packet__b6e1_f734.m K x3478).wp kr kp)
    (hret : ∀ (rw4904 : List (Row 2)) (x4905 : (List T_huff_packet)) (f4906 : Frag) (w : World), kr x4905 → (Vec 112 (Row.v (sz := 2)) 2 A3480 rw4904 c3481 f4906) → (RelL (R_huff_packet p3479) x4905 rw4904) → (rw4904.length = rw3482.length) → St w H [p3479, f4906] F → R (.returned (.tuple ⟨[]⟩)) w) :
    Calls Tryd.prog 56 ⟨[.slice A3480 rw3482.length c3481, fnv 84 [] []]⟩ w R := by
 refine enter Tryd.func56 rfl Tryd.ntmps56 rfl hS fun a w hS => ?_
 have hM := hm; clear hm
 rw [slices_SortStableFunc___huff_packet_huff_packet__b6e1_f734.m] at hM
 have hs3486 : ∀ q ∈ p3479, q ∈ p3479 := fun _ h => h
 have hz3487 : rw3482.length = rw3482.length := rfl
 refine wp_region_list <| st1 hS (mv rfl) rfl fun a w hS => st1 hS (mv rfl) rfl fun a w hS => st1 hS (ovE (v' := .int .i64 (x3478.length : Int)) (lenV rfl Tryd.runUnderlying110) (by rw [hr3483.len])) rfl fun a w hS => st1 hS (mv rfl) rfl fun a w hS => s_call hS rfl Tryd.call81 (slices_stableCmpFunc_huff_packet__b6e1_c92d_c hG K x3478 (x3478.length : Int) p3479 A3480 c3481 rw3482 f3484 hr3483 hV3485 (hS.st.part 2 [0, 1] (by kernel_rfl)) (wp_bind hM) (fun rw4897 data4898 f4899 w hM h4900 h4901 h4902 hst => s_back hS.ev hst.appF rfl fun hS => ?_))
 replace hS : Ss _ _ _ H [p3479, f4899] F _ _ := hS
 have hz4903 := Eq.trans h4902 hz3487
 replace hS := hS.re 0 (u := .slice A3480 rw3482.length c3481) (v := .slice A3480 rw4897.length c3481) rfl (by rw [h4902])
 replace hS := hS.re 4 (u := .slice A3480 rw3482.length c3481) (v := .slice A3480 rw4897.length c3481) rfl (by rw [h4902])
 replace hS := hS.re 5 (u := .slice A3480 rw3482.length c3481) (v := .slice A3480 rw4897.length c3481) rfl (by rw [h4902])
 refine wpList_nil ?_
 exact s_end (rs := []) hS rfl rfl (hret rw4897 data4898 f4899 w (wp_ok hM) h4900 h4901 hz4903 (hS.st.pick [0, 1] (by kernel_rfl)))

theorem huff_merged_c {H : Imm} {F : List Frag} {w : World} {R : Ending → World → Prop} {kr : (List T_huff_packet) → Prop} {kp : Value → Prop} (hG : Gl H) (K : Nat) (a_3313 : List T_huff_packet) (b_3321 : List T_huff_packet) (p3314 : Frag) (A3315 : Option Addr) (c3316 : Nat) (rw3317 : List (Row 2)) (A3322 : Option Addr) (c3323 : Nat) (rw3324 : List (Row 2)) (hr3318 : RelL (R_huff_packet p3314) a_3313 rw3317) (hp3319 : Pl p3314 (Row.v (sz := 2)) A3315 rw3317) (hc3320 : rw3317.length ≤ c3316) (hr3325 : RelL (R_huff_packet p3314) b_3321 rw3324) (hp3326 : Pl p3314 (Row.v (sz := 2)) A3322 rw3324) (hc3327 : rw3324.length ≤ c3323)
    (hS : St w H [p3314] F) (hm : (huff_merged.m K a_3313 b_3321).wp kr kp)
    (hret : ∀ (p4916 : Frag) (A4918 : Option Addr) (c4919 : Nat) (rw4920 : List (Row 2)) (x4921 : (List T_huff_packet)) (f4922 : Frag) (w : World), kr x4921 → (∀ q ∈ p3314, q ∈ p4916) → (Vec 112 (Row.v (sz := 2)) 2 A4918 rw4920 c4919 f4922) → (RelL (R_huff_packet p4916) x4921 rw4920) → St w H [p4916, f4922] F → R (.returned (.slice A4918 rw4920.length c4919)) w)
    (hpan : ∀ v w, kp v → St w H [] F → R (.panicked [⟨v, false, false⟩]) w) :
    Calls Tryd.prog 59 ⟨[.slice A3315 rw3317.length c3316, .slice A3322 rw3324.length c3323]⟩ w R := by
 refine enter Tryd.func59 rfl Tryd.ntmps59 rfl hS fun a w hS => ?_
 have hM := hm; clear hm
 rw [huff_merged.m] at hM
 have hs3328 : ∀ q ∈ p3314, q ∈ p3314 := fun _ h => h
 refine wp_seq <| wp_region_list <| st1 hS (asg rfl) rfl fun a w hS => ?_
 obtain ⟨f3329, hV3330, hS⟩ := hS.nilV 112 (Row.v (sz := 2)) 2
 have hr3331 : RelL (R_huff_packet p3314) ([] : List T_huff_packet) ([] : List (Row 2)) := RelL.nil
 refine wpList_nil <| then_n <| wp_seq <| wp_region_list <| st1 hS (mv rfl) rfl fun a w hS => st1 hS (mv rfl) rfl fun a w hS => ?_
 obtain ⟨rw3337, hrw⟩ : ∃ r, r = ([(⟨[.slice A3315 rw3317.length c3316], by simp, by simp [Value.oneCell']⟩ : Row 1), (⟨[.slice A3322 rw3324.length c3323], by simp, by simp [Value.oneCell']⟩ : Row 1)] : List (Row 1)) := ⟨_, rfl⟩
 have hr3336 : RelL (R_s_huff_packet p3314) ([a_3313, b_3321] : List (List T_huff_packet)) rw3337 := by rw [hrw]; exact (RelL.cons (show R_s_huff_packet p3314 _ _ from ⟨A3315, c3316, rw3317, rfl, hr3318, hp3319, hc3320⟩) (RelL.cons (show R_s_huff_packet p3314 _ _ from ⟨A3322, c3323, rw3324, rfl, hr3325, hp3326, hc3327⟩) RelL.nil))
 refine bsl (g := (Row.v (sz := 1))) rw3337 [.slice A3315 rw3317.length c3316, .slice A3322 rw3324.length c3323] hS Tryd.runUnderlying165 Tryd.sizeOf110 X.el110 rfl rfl rfl (by simp [Value.cells]) (by rw [hrw]; rfl) (by rw [hrw]; rfl) rfl rfl rfl fun w A3332 c3333 f3334 hV3335 hS => ?_
 clear hrw
 replace hS := hS.front [0, 2, 1] (by kernel_rfl)
 obtain ⟨p3338, hs3339, hs3340, hS⟩ := hS.poolF
 have hc3342 := hV3335.cap Row.len rfl
 have hp3341 := hV3335.pl.mono hs3339
 replace hp3319 := hp3319.mono hs3340
 replace hp3326 := hp3326.mono hs3340
 replace hr3318 := RelL.mono (fun _ _ h => R_huff_packet.mono hs3340 h) hr3318
 replace hr3325 := RelL.mono (fun _ _ h => R_huff_packet.mono hs3340 h) hr3325
 replace hr3331 := RelL.mono (fun _ _ h => R_huff_packet.mono hs3340 h) hr3331
 replace hr3336 := RelL.mono (fun _ _ h => R_s_huff_packet.mono hs3340 h) hr3336
 replace hs3328 := fun q h => hs3340 q (hs3328 q h)
 refine s_call hS rfl Tryd.call83 (slices_Concat___huff_packet_huff_packet__c hG K ([a_3313, b_3321] : List (List T_huff_packet)) p3338 A3332 c3333 rw3337 hr3336 hp3341 hc3342 (hS.st.part 1 [0, 1] (by kernel_rfl)) (wp_bind hM) (fun p3469 A3470 c3471 rw3472 x3473 f3474 w hM h3475 h3476 h3477 hst => s_back hS.ev hst.appF rfl fun hS => ?_) (fun v w hk hst => s_pan (then_pan (⟨hS.ev.defs, hpan _ _ hk hst.appF.frame⟩))))
 replace hS : Ss _ _ _ H [p3469, f3474, f3329] F _ _ := hS
 replace hp3319 := hp3319.mono h3475
 replace hp3326 := hp3326.mono h3475
 replace hp3341 := hp3341.mono h3475
 replace hr3318 := RelL.mono (fun _ _ h => R_huff_packet.mono h3475 h) hr3318
 replace hr3325 := RelL.mono (fun _ _ h => R_huff_packet.mono h3475 h) hr3325
 replace hr3331 := RelL.mono (fun _ _ h => R_huff_packet.mono h3475 h) hr3331
 replace hr3336 := RelL.mono (fun _ _ h => R_s_huff_packet.mono h3475 h) hr3336
 replace hs3328 := fun q h => h3475 q (hs3328 q h)
 refine st1 hS (asg rfl) rfl fun a w hS => wpList_nil <| then_n <| wp_seq <| wp_region_list <| st1 hS (mv rfl) rfl fun a w hS => s_call hS rfl Tryd.call56 (slices_SortStableFunc___huff_packet_huff_packet__b6e1_f734_c hG K x3473 p3469 A3470 c3471 rw3472 f3474 h3477 h3476 (hS.st.part 2 [0, 1, 2] (by kernel_rfl)) (wp_bind hM) (fun rw4910 x4911 f4912 w hM h4913 h4914 h4915 hst => s_back hS.ev hst.appF rfl fun hS => ?_))
 replace hS : Ss _ _ _ H [p3469, f4912, f3329] F _ _ := hS
 replace hS := hS.re 5 (u := .slice A3470 rw3472.length c3471) (v := .slice A3470 rw4910.length c3471) rfl (by rw [h4915])
 replace hS := hS.re 9 (u := .slice A3470 rw3472.length c3471) (v := .slice A3470 rw4910.length c3471) rfl (by rw [h4915])
 replace hS := hS.re 10 (u := .slice A3470 rw3472.length c3471) (v := .slice A3470 rw4910.length c3471) rfl (by rw [h4915])
 refine wpList_nil <| then_n <| wp_seq <| wp_region_list <| st1 hS (mv rfl) rfl fun a w hS => st1 hS (asg rfl) rfl fun a w hS => wpList_nil <| then_n <| wp_ret ?_
 exact s_ret (rs := [4]) hS rfl rfl (hret p3469 A3470 c3471 rw4910 x4911 f4912 w (wp_ok hM) hs3328 h4913 h4914 (hS.st.pick [0, 1] (by kernel_rfl)))

theorem huff_Lengths_c {H : Imm} {F : List Frag} {w : World} {R : Ending → World → Prop} {kr : ((List Int) × Int) → Prop} {kp : Value → Prop} (hG : Gl H) (K : Nat) (often1412 : List Int) (most1417 : Int) (A1413 : Option Addr) (c1414 : Nat) (hr1415 : Rdl H [] F (ci .i64) A1413 often1412) (hc1416 : often1412.length ≤ c1414)
    (hS : St w H [] F) (hm : (huff_Lengths.m K often1412 most1417).wp kr kp)
    (hret : ∀ (A5139 : Option Addr) (c5140 : Nat) (x5141 : (List Int)) (f5142 : Frag) (x5144 : Int) (w : World), kr (x5141, x5144) → (Vec 3 (ci .i64) 1 A5139 x5141 c5140 f5142) → St w H [f5142] F → R (.returned (.tuple ⟨[.slice A5139 x5141.length c5140, .int .i64 x5144]⟩)) w)
    (hpan : ∀ v w, kp v → St w H [] F → R (.panicked [⟨v, false, false⟩]) w) :
    Calls Tryd.prog 40 ⟨[.slice A1413 often1412.length c1414, .int .i64 most1417]⟩ w R := by
 refine enter Tryd.func40 rfl Tryd.ntmps40 rfl hS fun a w hS => ?_
 have hM := hm; clear hm
 rw [huff_Lengths.m] at hM
 refine wp_seq <| wp_region_list <| st1 hS (asg rfl) rfl fun a w hS => ?_
 obtain ⟨f1418, hV1419, hS⟩ := hS.nilV 3 (ci .i64) 1
 refine st1 hS (asg rfl) rfl fun a w hS => wpList_nil <| then_n <| wp_seq <| wp_seq <| wp_region_list <| st1 hS (mv rfl) rfl fun a w hS => st1 hS (bin rfl rfl rfl) rfl fun a w hS => st1 hS (mv rfl) rfl fun a w hS => g_op 2 false 17 (b := (decide (most1417 < (1 : Int)))) (r := (decide (most1417 > (15 : Int)))) hS rfl rfl rfl rfl rfl rfl rfl (fun hb a w hS K hK => ?_) rfl fun a w hS => ?_
 ·refine st1g hS rfl rfl rfl hb (mv rfl) rfl fun a w hS => ?_
  refine st1g hS rfl rfl rfl hb (bin rfl rfl rfl) rfl fun a w hS => ?_
  exact wpList_nil (hK _ _ (hS.up 2 rfl rfl))
 refine st1 hS (mv rfl) rfl fun a w hS => g_op 3 false 21 (b := ((decide (most1417 < (1 : Int))) || (decide (most1417 > (15 : Int))))) (r := (decide ((often1412.length : Int) > (320 : Int)))) hS rfl rfl rfl rfl rfl rfl rfl (fun hb a w hS K hK => ?_) rfl fun a w hS => ?_
 ·refine st1g hS rfl rfl rfl hb (mv rfl) rfl fun a w hS => ?_
  refine st1g hS rfl rfl rfl hb (lenV rfl Tryd.runUnderlying45) rfl fun a w hS => st1g hS rfl rfl rfl hb (bin rfl rfl rfl) rfl fun a w hS => ?_
  exact wpList_nil (hK _ _ (hS.up 3 rfl rfl))
 refine st1 hS (mv rfl) rfl fun a w hS => seg_cutJ (fun a w => ∃ (v1446 : Bool), Ss 109 [] [(0, .slice A1413 often1412.length c1414), (1, .int .i64 most1417), (29, .bool v1446)] H [] F a w ∧ (huff_Lengths.j1 K often1412 most1417 v1446).wp kr kp) 3 (fun J1447 hJ1447 => ?_) ?_
 ·refine ifB (b := (((decide (most1417 < (1 : Int))) || (decide (most1417 > (15 : Int)))) || (decide ((often1412.length : Int) > (320 : Int))))) hM (fun hb1420 hM => ?_) (fun hb1420 hM => ?_)
  ·replace hS := hS.re 25 (v := .bool true) rfl (congrArg Value.bool hb1420)
   replace hS := hS.re 26 (v := .bool true) rfl (congrArg Value.bool hb1420)
   refine skips 2 hS rfl fun a w hS => st1 hS (pk rfl rfl rfl) rfl fun a w hS => wpList_nil <| then_n ?_
   exact hJ1447 _ _ ⟨true, hS.to [] (by kernel_rfl) ⟨rfl, rfl, rfl, trivial⟩, hM⟩
  ·replace hS := hS.re 25 (v := .bool false) rfl (congrArg Value.bool hb1420)
   replace hS := hS.re 26 (v := .bool false) rfl (congrArg Value.bool hb1420)
   refine st1g hS rfl rfl rfl rfl (mv rfl) rfl fun a w hS => unguard hS rfl rfl rfl rfl <| s_call hS rfl Tryd.call54 (slices_ContainsFunc___int_int__5d67_c hG K often1412 A1413 c1414 (hr1415.app _) hc1416 (hS.st.part 0 [0] (by kernel_rfl)) (wp_bind hM) (fun x1445 w hM  hst => s_back hS.ev hst.appF rfl fun hS => ?_))
   replace hS : Ss _ _ _ H [f1418] F _ _ := hS
   refine st1 hS (pk rfl rfl rfl) rfl fun a w hS => wpList_nil <| then_n ?_
   exact hJ1447 _ _ ⟨x1445, hS.to [] (by kernel_rfl) ⟨rfl, rfl, rfl, trivial⟩, hM⟩
 ·intro a w hI
  obtain ⟨v1446, hS, hM⟩ := hI
  rw [huff_Lengths.j1] at hM
  refine wpList_nil <| then_n <| s_cond hS rfl hM (fun hb1448 hM => ?_) (fun hb1448 hM => ?_)
  ·refine wp_seq ?_
   refine wp_region_list <| st1 hS (asg rfl) rfl fun a w hS => ?_
   obtain ⟨f1449, hV1450, hS⟩ := hS.nilV 3 (ci .i64) 1
   refine st1 hS (asg rfl) rfl fun a w hS => wpList_nil <| then_n <| wp_ret <| then_ret ?_
   exact s_ret (rs := [4, 5]) hS rfl rfl (hret none (0) ([] : List Int) f1449 (1 : Int) w (wp_ok hM) hV1450 (hS.st.pick [0] (by kernel_rfl)))
  ·refine wp_skip ?_
   refine then_n <| wp_seq <| wp_region_list <| st1 hS (asg rfl) rfl fun a w hS => ?_
   obtain ⟨p1453, hS⟩ := hS.pool0
   obtain ⟨f1451, hV1452, hS⟩ := hS.nilV 112 (Row.v (sz := 2)) 2
   have hr1454 : RelL (R_huff_packet p1453) ([] : List T_huff_packet) ([] : List (Row 2)) := RelL.nil
   refine wpList_nil <| then_n <| seq_joinJ (fun a w => ∃ (p1531 : Frag) (A1532 : Option Addr) (c1533 : Nat) (rw1534 : List (Row 2)) (single1535 : (List T_huff_packet)) (f1536 : Frag), Ss 109 [] [(0, .slice A1413 often1412.length c1414), (1, .int .i64 most1417), (6, .slice A1532 rw1534.length c1533)] H [p1531, f1536] F a w ∧ (Vec 112 (Row.v (sz := 2)) 2 A1532 rw1534 c1533 f1536) ∧ (RelL (R_huff_packet p1531) single1535 rw1534) ∧ (huff_Lengths.j3 K often1412 most1417 single1535).wp kr kp) (fun J1539 hJ1539 => ?_) ?_
   ·refine wp_seq ?_
    refine wp_region_list <| st1 hS (mv rfl) rfl fun a w hS => st1 hS (lenV rfl Tryd.runUnderlying45) rfl fun a w hS => st1 hS (mv rfl) rfl fun a w hS => wpList_nil <| then_n <| wp_block <| s_loopJ (fun k1502 a w => ∃ (p1493 : Frag) (A1494 : Option Addr) (c1495 : Nat) (rw1496 : List (Row 2)) (single1497 : (List T_huff_packet)) (f1498 : Frag) (v1501 : Int), Ss 109 [] [(0, .slice A1413 often1412.length c1414), (1, .int .i64 most1417), (6, .slice A1494 rw1496.length c1495), (30, .slice A1413 often1412.length c1414), (31, .int .i64 (often1412.length : Int)), (32, .int .i64 v1501)] H [p1493, f1498] F a w ∧ (Vec 112 (Row.v (sz := 2)) 2 A1494 rw1496 c1495 f1498) ∧ (RelL (R_huff_packet p1493) single1497 rw1496) ∧ (huff_Lengths.l2 K often1412 most1417 k1502 single1497 v1501).wp kr kp) K ?_ ?_ ?_
    ·exact ⟨p1453, none, 0, ([] : List (Row 2)), ([] : List T_huff_packet), f1451, (0 : Int), hS.to [1, 0] (by kernel_rfl) ⟨rfl, rfl, rfl, rfl, rfl, rfl, trivial⟩, hV1452, hr1454, hM⟩
    ·intro a w hI; obtain ⟨_, _, _, _, _, _, _, _, _, _, hM⟩ := hI; exact wp_fail hM
    ·intro k1502 a w hI J1530 hJ1530
     obtain ⟨p1493, A1494, c1495, rw1496, single1497, f1498, v1501, hS, hV1499, hr1500, hM⟩ := hI
     rw [huff_Lengths.l2] at hM
     refine wp_seq <| wp_region_list <| st1 hS (bin rfl rfl rfl) rfl fun a w hS => wpList_nil <| then_n <| wp_seq <| s_cond hS rfl hM (fun hb1503 hM => ?_) (fun hb1503 hM => ?_)
     ·refine wp_skip ?_
      refine then_n <| wp_seq <| wp_block <| wp_seq <| wp_region_list <| st1 hS (mv rfl) rfl fun a w hS => ?_
      obtain ⟨hk1504, hM⟩ := wp_chk hM
      refine st1 hS (ixV rfl rfl Tryd.runUnderlying45 Tryd.sizeOf3 hr1415.wk (fun _ => rfl) rfl hk1504) rfl fun a w hS => st1 hS (ldV0 rfl hr1415.wk (fun _ => rfl) hk1504 rfl Tryd.isAgg3) rfl fun a w hS => st1 hS (asg rfl) rfl fun a w hS => st1x (v := Value.int .i64) (x0 := (rd often1412 v1501)) hS (asg rfl) rfl fun n_1505 a w hz hS => ?_
      have hM := lt_to hz hM; clear hz
      refine wpList_nil <| then_n <| wp_seq <| wp_region_list <| st1 hS (mv rfl) rfl fun a w hS => st1 hS (bin rfl rfl rfl) rfl fun a w hS => wpList_nil <| then_n <| s_cond hS rfl hM (fun hb1506 hM => ?_) (fun hb1506 hM => ?_)
      ·refine wp_region_list ?_
       refine st1 hS (mv rfl) rfl fun a w hS => st1 hS (mv rfl) rfl fun a w hS => st1 hS (mv rfl) rfl fun a w hS => bsl (g := (ci .i64)) ([v1501] : List Int) [.int .i64 v1501] hS Tryd.runUnderlying45 Tryd.sizeOf3 X.el3 rfl rfl rfl (by simp [Value.cells]) rfl rfl rfl rfl rfl fun w A1507 c1508 f1509 hV1510 hS => st1 hS (bld ([.int .i64 n_1505, .slice A1507 ([v1501] : List Int).length c1508]) [(0, 1), (1, 1)] Tryd.zeroValue112 Tryd.runUnderlying112 (by intro w; simp [Tryd.sizeOf3, Tryd.sizeOf45]) rfl rfl) rfl fun a w hS => ?_
       replace hS := hS.front [0, 1, 2] (by kernel_rfl)
       obtain ⟨p1511, hs1512, hs1513, hS⟩ := hS.poolF
       have hc1515 := hV1510.cap (fun _ => rfl) rfl
       have hp1514 := hV1510.pl.mono hs1512
       replace hr1500 := RelL.mono (fun _ _ h => R_huff_packet.mono hs1513 h) hr1500
       obtain ⟨rw1521, hrw⟩ : ∃ r, r = ([(⟨[.int .i64 n_1505, .slice A1507 ([v1501] : List Int).length c1508], by simp, by simp [Value.oneCell']⟩ : Row 2)] : List (Row 2)) := ⟨_, rfl⟩
       have hr1520 : RelL (R_huff_packet p1511) ([(T_huff_packet.mk n_1505 ([v1501] : List Int))] : List T_huff_packet) rw1521 := by rw [hrw]; exact (RelL.cons (show R_huff_packet p1511 _ _ from ⟨A1507, c1508, rfl, hp1514, hc1515⟩) RelL.nil)
       refine bsl (g := (Row.v (sz := 2))) rw1521 [.agg ⟨[.int .i64 n_1505, .slice A1507 ([v1501] : List Int).length c1508]⟩] hS Tryd.runUnderlying110 Tryd.sizeOf112 X.el112 rfl rfl rfl (by simp [Value.cells]) (by rw [hrw]; rfl) (by rw [hrw]; rfl) rfl rfl rfl fun w A1516 c1517 f1518 hV1519 hS => ?_
       clear hrw
       obtain ⟨hk1522, hM⟩ := wp_chk hM
       refine apV (ys := rw1521) 2 hS rfl rfl hV1499 rfl (hV1519.rd (i := 0) rfl) Tryd.runUnderlying110 Tryd.runUnderlying110 X.el112 Row.len rfl one_row (hr1500.room hr1520 hk1522) rfl fun rw1527 w A1523 c1524 f1525 hz hV1526 hS => ?_
       obtain ⟨zs1528, hzm⟩ := nameE (single1497 ++ ([(T_huff_packet.mk n_1505 ([v1501] : List Int))] : List T_huff_packet))
       replace hM := lt_to hzm hM
       have hr1529 := RelL.append hr1500 hr1520
       rw [← hz, ← hzm] at hr1529; clear hz hzm
       refine st1 hS (asg rfl) rfl fun a w hS => wpList_nil <| blk_n (then_n ?_)
       refine wp_region_list <| st1 hS (bin rfl rfl rfl) rfl fun a w hS => st1 hS (mv rfl) rfl fun a w hS => wpList_nil <| then_n ?_
       exact hJ1530 _ _ ⟨p1511, A1523, c1524, rw1527, zs1528, f1525, (w64 (v1501 + (1 : Int))), hS.to [1, 2] (by kernel_rfl) ⟨rfl, rfl, rfl, rfl, rfl, rfl, trivial⟩, hV1526, hr1529, hM⟩
      ·refine wp_skip ?_
       refine blk_n (then_n ?_)
       refine wp_region_list <| st1 hS (bin rfl rfl rfl) rfl fun a w hS => st1 hS (mv rfl) rfl fun a w hS => wpList_nil <| then_n ?_
       exact hJ1530 _ _ ⟨p1493, A1494, c1495, rw1496, single1497, f1498, (w64 (v1501 + (1 : Int))), hS.to [0, 1] (by kernel_rfl) ⟨rfl, rfl, rfl, rfl, rfl, rfl, trivial⟩, hV1499, hr1500, hM⟩
     ·refine wp_exit ?_
      refine then_ex (then_ex (blk_same (then_n ?_)))
      exact hJ1539 _ _ ⟨p1493, A1494, c1495, rw1496, single1497, f1498, hS.to [0, 1] (by kernel_rfl) ⟨rfl, rfl, rfl, trivial⟩, hV1499, hr1500, hM⟩
   ·intro a w hI
    obtain ⟨p1531, A1532, c1533, rw1534, single1535, f1536, hS, hV1537, hr1538, hM⟩ := hI
    rw [huff_Lengths.j3] at hM
    refine wp_seq <| wp_seq <| wp_region_list <| st1 hS (mv rfl) rfl fun a w hS => st1 hS (ovE (v' := .int .i64 (single1535.length : Int)) (lenV rfl Tryd.runUnderlying110) (by rw [hr1538.len])) rfl fun a w hS => st1 hS (mv rfl) rfl fun a w hS => ?_
    obtain ⟨hk1540, hM⟩ := wp_chk hM
    refine st1 hS (shl rfl rfl hk1540) rfl fun a w hS => st1 hS (bin rfl rfl rfl) rfl fun a w hS => wpList_nil <| then_n <| s_cond hS rfl hM (fun hb1541 hM => ?_) (fun hb1541 hM => ?_)
    ·refine wp_seq ?_
     refine wp_region_list <| st1 hS (asg rfl) rfl fun a w hS => ?_
     obtain ⟨f1542, hV1543, hS⟩ := hS.nilV 3 (ci .i64) 1
     refine st1 hS (asg rfl) rfl fun a w hS => wpList_nil <| then_n <| wp_ret <| then_ret ?_
     exact s_ret (rs := [4, 5]) hS rfl rfl (hret none (0) ([] : List Int) f1542 (1 : Int) w (wp_ok hM) hV1543 (hS.st.pick [0] (by kernel_rfl)))
    ·refine wp_skip ?_
     refine then_n <| wp_seq <| wp_region_list <| st1 hS (mv rfl) rfl fun a w hS => st1 hS (lenV rfl Tryd.runUnderlying45) rfl fun a w hS => ?_
     obtain ⟨hk1544, hM⟩ := wp_chk hM
     refine mkS (g := (ci .i64)) (m := (often1412.length : Int)) (0 : Int) hS rfl rfl (by simp) Tryd.runUnderlying45 X.el3 (fun w => ⟨_, Tryd.zeroValue3 w, rfl⟩) (fun _ => rfl) rfl rfl hk1544 rfl fun zs1549 w A1545 c1546 f1547 hz hV1548 hS => ?_
     have hM := lt_to hz hM; clear hz
     refine st1 hS (asg rfl) rfl fun a w hS => wpList_nil <| then_n <| seq_joinJ (fun a w => ∃ (out1563 : (List Int)) (f1564 : Frag), Ss 109 [] [(1, .int .i64 most1417), (6, .slice A1532 rw1534.length c1533), (9, .slice A1545 out1563.length c1546)] H [p1531, f1536, f1564] F a w ∧ (Vec 3 (ci .i64) 1 A1545 out1563 c1546 f1564) ∧ (huff_Lengths.j4 K most1417 single1535 out1563).wp kr kp) (fun J1566 hJ1566 => ?_) ?_
     ·refine wp_seq ?_
      refine wp_region_list <| st1 hS (mv rfl) rfl fun a w hS => st1 hS (ovE (v' := .int .i64 (single1535.length : Int)) (lenV rfl Tryd.runUnderlying110) (by rw [hr1538.len])) rfl fun a w hS => st1 hS (bin rfl rfl rfl) rfl fun a w hS => wpList_nil <| then_n <| s_cond hS rfl hM (fun hb1550 hM => ?_) (fun hb1550 hM => ?_)
      ·refine wp_region_list ?_
       refine st1 hS (mv rfl) rfl fun a w hS => st1 hS (mv rfl) rfl fun a w hS => ?_
       obtain ⟨hk1551, hM⟩ := wp_chk hM
       refine st1 hS (ixV rfl rfl Tryd.runUnderlying110 Tryd.sizeOf112 (hV1537.rd (i := 2) rfl) Row.len rfl (hr1538.inb hk1551)) rfl fun a w hS => st1 hS (fadV rfl (hV1537.rd (i := 2) rfl) Row.len rfl (hr1538.inb hk1551) Tryd.runUnderlying112 rfl Tryd.sizeOf45 rfl) rfl fun a w hS => ?_
       obtain ⟨A1552, c1553, hw1556, hp1554, hc1555⟩ := hr1538.get hk1551
       refine st1 hS (ldV 1 rfl (hV1537.rd (i := 2) rfl) Row.len (hr1538.inb hk1551) (by rw [show Row.v (rd rw1534 (0 : Int)) = _ from hw1556]; rfl) Tryd.isAgg45) rfl fun a w hS => ?_
       obtain ⟨hk1557, hM⟩ := wp_chk hM
       refine st1 hS (ixV rfl rfl Tryd.runUnderlying45 Tryd.sizeOf3 (hp1554.rd (i := 1) rfl) (fun _ => rfl) rfl hk1557) rfl fun a w hS => st1 hS (ldV0 rfl (hp1554.rd (i := 1) rfl) (fun _ => rfl) hk1557 rfl Tryd.isAgg3) rfl fun a w hS => ?_
       obtain ⟨hk1558, hM⟩ := wp_chk hM
       refine st1 hS (ixV rfl rfl Tryd.runUnderlying45 Tryd.sizeOf3 (hV1548.rd (i := 0) rfl) (fun _ => rfl) rfl hk1558) rfl fun a w hS => stV (i := (rd ((rd single1535 (0 : Int)).symbols_) (0 : Int))) (sz := 1) 0 0 ((1 : Int)) hS rfl rfl hV1548 rfl Tryd.sizeOf3 (one_t3 (1 : Int)) (fun _ => rfl) hk1558 rfl rfl fun zs1561 w f1559 hz hz1562 hV1560 hS => ?_
       have hM := lt_to hz hM; clear hz
       replace hS := hS.re 9 (u := .slice A1545 zs1549.length c1546) (v := .slice A1545 zs1561.length c1546) rfl (by rw [hz1562])
       replace hS := hS.re 54 (u := .slice A1545 zs1549.length c1546) (v := .slice A1545 zs1561.length c1546) rfl (by rw [hz1562])
       replace hS := hS.re 58 (u := .slice A1545 zs1549.length c1546) (v := .slice A1545 zs1561.length c1546) rfl (by rw [hz1562])
       refine wpList_nil <| then_n ?_
       exact hJ1566 _ _ ⟨zs1561, f1559, hS.to [1, 2, 0] (by kernel_rfl) ⟨rfl, rfl, rfl, trivial⟩, hV1560, hM⟩
      ·refine wp_skip ?_
       refine then_n ?_
       exact hJ1566 _ _ ⟨zs1549, f1547, hS.to [1, 2, 0] (by kernel_rfl) ⟨rfl, rfl, rfl, trivial⟩, hV1548, hM⟩
     ·intro a w hI
      obtain ⟨out1563, f1564, hS, hV1565, hM⟩ := hI
      rw [huff_Lengths.j4] at hM
      refine wp_seq <| wp_seq <| wp_region_list <| st1 hS (mv rfl) rfl fun a w hS => st1 hS (ovE (v' := .int .i64 (single1535.length : Int)) (lenV rfl Tryd.runUnderlying110) (by rw [hr1538.len])) rfl fun a w hS => st1 hS (bin rfl rfl rfl) rfl fun a w hS => wpList_nil <| then_n <| s_cond hS rfl hM (fun hb1567 hM => ?_) (fun hb1567 hM => ?_)
      ·refine wp_seq ?_
       refine wp_region_list <| st1 hS (mv rfl) rfl fun a w hS => st1 hS (asg rfl) rfl fun a w hS => st1 hS (asg rfl) rfl fun a w hS => wpList_nil <| then_n <| wp_ret <| then_ret ?_
       exact s_ret (rs := [4, 5]) hS rfl rfl (hret A1545 c1546 out1563 f1564 (0 : Int) w (wp_ok hM) hV1565 (hS.st.pick [2] (by kernel_rfl)))
      ·refine wp_skip ?_
       refine then_n <| wp_seq <| wp_region_list <| st1 hS (mv rfl) rfl fun a w hS => s_call hS rfl Tryd.call56 (slices_SortStableFunc___huff_packet_huff_packet__b6e1_f289_c hG K single1535 p1531 A1532 c1533 rw1534 f1536 hr1538 hV1537 (hS.st.part 2 [0, 1, 2] (by kernel_rfl)) (wp_bind hM) (fun rw3013 x3014 f3015 w hM h3016 h3017 h3018 hst => s_back hS.ev hst.appF rfl fun hS => ?_))
       replace hS : Ss _ _ _ H [p1531, f3015, f1564] F _ _ := hS
       replace hS := hS.re 6 (u := .slice A1532 rw1534.length c1533) (v := .slice A1532 rw3013.length c1533) rfl (by rw [h3018])
       replace hS := hS.re 66 (u := .slice A1532 rw1534.length c1533) (v := .slice A1532 rw3013.length c1533) rfl (by rw [h3018])
       replace hS := hS.re 70 (u := .slice A1532 rw1534.length c1533) (v := .slice A1532 rw3013.length c1533) rfl (by rw [h3018])
       refine wpList_nil <| then_n <| wp_seq <| wp_region_list <| st1 hS (mv rfl) rfl fun a w hS => st1 hS (asg rfl) rfl fun a w hS => wpList_nil <| then_n <| seq_joinJ (fun a w => ∃ (p5023 : Frag) (A5027 : Option Addr) (c5028 : Nat) (rw5029 : List (Row 2)) (row5030 : (List T_huff_packet)), Ss 109 [] [(6, .slice A1532 rw3013.length c1533), (9, .slice A1545 out1563.length c1546), (10, .slice A5027 rw5029.length c5028)] H [p5023, f1564] F a w ∧ (RelL (R_huff_packet p5023) x3014 rw3013) ∧ (Pl p5023 (Row.v (sz := 2)) A1532 rw3013) ∧ (rw3013.length ≤ c1533) ∧ (RelL (R_huff_packet p5023) row5030 rw5029) ∧ (Pl p5023 (Row.v (sz := 2)) A5027 rw5029) ∧ (rw5029.length ≤ c5028) ∧ (huff_Lengths.j6 K out1563 x3014 row5030).wp kr kp) (fun J5034 hJ5034 => ?_) ?_
       ·refine wp_seq ?_
        refine wp_region_list <| st1 hS (mv rfl) rfl fun a w hS => st1 hS (bin rfl rfl rfl) rfl fun a w hS => st1 hS (mv rfl) rfl fun a w hS => wpList_nil <| then_n <| wp_block <| s_loopJ (fun k4982 a w => ∃ (p4970 : Frag) (A4974 : Option Addr) (c4975 : Nat) (rw4976 : List (Row 2)) (row4977 : (List T_huff_packet)) (v4981 : Int), Ss 109 [] [(6, .slice A1532 rw3013.length c1533), (9, .slice A1545 out1563.length c1546), (10, .slice A4974 rw4976.length c4975), (74, .int .i64 (w64 (most1417 - (1 : Int)))), (75, .int .i64 v4981)] H [p4970, f1564] F a w ∧ (RelL (R_huff_packet p4970) x3014 rw3013) ∧ (Pl p4970 (Row.v (sz := 2)) A1532 rw3013) ∧ (rw3013.length ≤ c1533) ∧ (RelL (R_huff_packet p4970) row4977 rw4976) ∧ (Pl p4970 (Row.v (sz := 2)) A4974 rw4976) ∧ (rw4976.length ≤ c4975) ∧ (huff_Lengths.l5 K most1417 out1563 x3014 k4982 row4977 v4981).wp kr kp) K ?_ ?_ ?_
        ·replace hS := hS.front [1, 0, 2] (by kernel_rfl)
         obtain ⟨p5013, hs5014, hs5015, hS⟩ := hS.poolF
         have hc5017 := h3016.cap Row.len rfl
         have hp5016 := h3016.pl.mono hs5014
         replace h3017 := RelL.mono (fun _ _ h => R_huff_packet.mono hs5015 h) h3017
         exact ⟨p5013, A1532, c1533, rw3013, x3014, (0 : Int), hS.to [0, 1] (by kernel_rfl) ⟨rfl, rfl, rfl, rfl, rfl, trivial⟩, h3017, hp5016, hc5017, h3017, hp5016, hc5017, hM⟩
        ·intro a w hI; obtain ⟨_, _, _, _, _, _, _, _, _, _, _, _, _, hM⟩ := hI; exact wp_fail hM
        ·intro k4982 a w hI J5012 hJ5012
         obtain ⟨p4970, A4974, c4975, rw4976, row4977, v4981, hS, hr4971, hp4972, hc4973, hr4978, hp4979, hc4980, hM⟩ := hI
         rw [huff_Lengths.l5] at hM
         refine wp_seq <| wp_region_list <| st1 hS (bin rfl rfl rfl) rfl fun a w hS => wpList_nil <| then_n <| wp_seq <| s_cond hS rfl hM (fun hb4983 hM => ?_) (fun hb4983 hM => ?_)
         ·refine wp_skip ?_
          refine then_n <| wp_seq <| wp_block <| wp_region_list <| st1 hS (mv rfl) rfl fun a w hS => st1 hS (mv rfl) rfl fun a w hS => s_call hS rfl Tryd.call60 (huff_pairs_c hG K row4977 p4970 A4974 c4975 rw4976 hr4978 hp4979 hc4980 (hS.st.part 1 [0, 1] (by kernel_rfl)) (wp_bind hM) (fun p4984 A4985 c4986 rw4987 x4988 f4989 w hM h4990 h4991 h4992 hst => s_back hS.ev hst.appF rfl fun hS => ?_) (fun v w hk hst => s_pan (blk_pan (then_pan (then_pan (blk_pan (then_pan (⟨hS.ev.defs, hpan _ _ hk hst.appF.frame⟩))))))))
          replace hS : Ss _ _ _ H [p4984, f4989, f1564] F _ _ := hS
          replace hp4972 := hp4972.mono h4990
          replace hp4979 := hp4979.mono h4990
          replace hr4971 := RelL.mono (fun _ _ h => R_huff_packet.mono h4990 h) hr4971
          replace hr4978 := RelL.mono (fun _ _ h => R_huff_packet.mono h4990 h) hr4978
          replace hS := hS.front [1, 0, 2] (by kernel_rfl)
          obtain ⟨p4993, hs4994, hs4995, hS⟩ := hS.poolF
          have hc4997 := h4991.cap Row.len rfl
          have hp4996 := h4991.pl.mono hs4994
          replace h4992 := RelL.mono (fun _ _ h => R_huff_packet.mono hs4995 h) h4992
          replace hp4972 := hp4972.mono hs4995
          replace hp4979 := hp4979.mono hs4995
          replace hr4971 := RelL.mono (fun _ _ h => R_huff_packet.mono hs4995 h) hr4971
          replace hr4978 := RelL.mono (fun _ _ h => R_huff_packet.mono hs4995 h) hr4978
          refine s_call hS rfl Tryd.call59 (huff_merged_c hG K x3014 x4988 p4993 A1532 c1533 rw3013 A4985 c4986 rw4987 hr4971 hp4972 hc4973 h4992 hp4996 hc4997 (hS.st.part 1 [0, 1] (by kernel_rfl)) (wp_bind hM) (fun p4998 A4999 c5000 rw5001 x5002 f5003 w hM h5004 h5005 h5006 hst => s_back hS.ev hst.appF rfl fun hS => ?_) (fun v w hk hst => s_pan (blk_pan (then_pan (then_pan (blk_pan (then_pan (⟨hS.ev.defs, hpan _ _ hk hst.appF.frame⟩))))))))
          replace hS : Ss _ _ _ H [p4998, f5003, f1564] F _ _ := hS
          replace h4992 := RelL.mono (fun _ _ h => R_huff_packet.mono h5004 h) h4992
          replace hp4972 := hp4972.mono h5004
          replace hp4979 := hp4979.mono h5004
          replace hp4996 := hp4996.mono h5004
          replace hr4971 := RelL.mono (fun _ _ h => R_huff_packet.mono h5004 h) hr4971
          replace hr4978 := RelL.mono (fun _ _ h => R_huff_packet.mono h5004 h) hr4978
          refine st1 hS (asg rfl) rfl fun a w hS => wpList_nil <| blk_n (then_n ?_)
          refine wp_region_list <| st1 hS (bin rfl rfl rfl) rfl fun a w hS => st1 hS (mv rfl) rfl fun a w hS => wpList_nil <| then_n ?_
          replace hS := hS.front [1, 0, 2] (by kernel_rfl)
          obtain ⟨p5018, hs5019, hs5020, hS⟩ := hS.poolF
          have hc5022 := h5005.cap Row.len rfl
          have hp5021 := h5005.pl.mono hs5019
          replace h4992 := RelL.mono (fun _ _ h => R_huff_packet.mono hs5020 h) h4992
          replace h5006 := RelL.mono (fun _ _ h => R_huff_packet.mono hs5020 h) h5006
          replace hp4972 := hp4972.mono hs5020
          replace hp4979 := hp4979.mono hs5020
          replace hp4996 := hp4996.mono hs5020
          replace hr4971 := RelL.mono (fun _ _ h => R_huff_packet.mono hs5020 h) hr4971
          replace hr4978 := RelL.mono (fun _ _ h => R_huff_packet.mono hs5020 h) hr4978
          exact hJ5012 _ _ ⟨p5018, A4999, c5000, rw5001, x5002, (w64 (v4981 + (1 : Int))), hS.to [0, 1] (by kernel_rfl) ⟨rfl, rfl, rfl, rfl, rfl, trivial⟩, hr4971, hp4972, hc4973, h5006, hp5021, hc5022, hM⟩
         ·refine wp_exit ?_
          refine then_ex (then_ex (blk_same (then_n ?_)))
          exact hJ5034 _ _ ⟨p4970, A4974, c4975, rw4976, row4977, hS.to [0, 1] (by kernel_rfl) ⟨rfl, rfl, rfl, trivial⟩, hr4971, hp4972, hc4973, hr4978, hp4979, hc4980, hM⟩
       ·intro a w hI
        obtain ⟨p5023, A5027, c5028, rw5029, row5030, hS, hr5024, hp5025, hc5026, hr5031, hp5032, hc5033, hM⟩ := hI
        rw [huff_Lengths.j6] at hM
        refine wp_seq <| wp_seq <| wp_region_list <| st1 hS (mv rfl) rfl fun a w hS => st1 hS (mv rfl) rfl fun a w hS => st1 hS (ovE (v' := .int .i64 (x3014.length : Int)) (lenV rfl Tryd.runUnderlying110) (by rw [hr5024.len])) rfl fun a w hS => st1 hS (bin rfl rfl rfl) rfl fun a w hS => st1 hS (bin rfl rfl rfl) rfl fun a w hS => ?_
        obtain ⟨hk5035, hM⟩ := wp_chk hM
        refine slVx (g := (Row.v (sz := 2))) hS rfl Tryd.runUnderlying110 Tryd.sizeOf112 lo0 (hiS rfl) Row.len hc5033 (hr5031.subok hk5035) rfl fun rw5036 A5038 c5039 a w hz hd5040 hc5041 hS => ?_
        obtain ⟨zs5037, hzm⟩ := nameE (sub row5030 (0 : Int) (w64 ((w64 ((2 : Int) * (x3014.length : Int))) - (2 : Int))))
        replace hM := lt_to hzm hM
        have hr5042 := hr5031.sub (0 : Int) (w64 ((w64 ((2 : Int) * (x3014.length : Int))) - (2 : Int))) (w64 ((w64 ((2 : Int) * (x3014.length : Int))) - (2 : Int))) rfl
        rw [← hz, ← hzm] at hr5042; clear hz hzm
        refine st1 hS (ovE (v' := .int .i64 (zs5037.length : Int)) (lenV rfl Tryd.runUnderlying110) (by rw [hr5042.len])) rfl fun a w hS => st1 hS (mv rfl) rfl fun a w hS => wpList_nil <| then_n <| wp_block <| s_loopJ (fun k5095 a w => ∃ (out5091 : (List Int)) (f5092 : Frag) (v5094 : Int), Ss 109 [] [(9, .slice A1545 out5091.length c1546), (87, .slice A5038 rw5036.length c5039), (88, .int .i64 (zs5037.length : Int)), (89, .int .i64 v5094)] H [f5092, p5023] F a w ∧ (Vec 3 (ci .i64) 1 A1545 out5091 c1546 f5092) ∧ (huff_Lengths.l7 K zs5037 k5095 out5091 v5094).wp kr kp) K ?_ ?_ ?_
        ·exact ⟨out1563, f1564, (0 : Int), hS.to [1, 0] (by kernel_rfl) ⟨rfl, rfl, rfl, rfl, trivial⟩, hV1565, hM⟩
        ·intro a w hI; obtain ⟨_, _, _, _, _, hM⟩ := hI; exact wp_fail hM
        ·intro k5095 a w hI J5138 hJ5138
         obtain ⟨out5091, f5092, v5094, hS, hV5093, hM⟩ := hI
         rw [huff_Lengths.l7] at hM
         refine wp_seq <| wp_region_list <| st1 hS (bin rfl rfl rfl) rfl fun a w hS => wpList_nil <| then_n <| wp_seq <| s_cond hS rfl hM (fun hb5096 hM => ?_) (fun hb5096 hM => ?_)
         ·refine wp_skip ?_
          refine then_n <| wp_seq <| wp_block <| wp_seq <| wp_region_list ?_
          obtain ⟨hk5097, hM⟩ := wp_chk hM
          refine st1 hS (ixV rfl rfl Tryd.runUnderlying110 Tryd.sizeOf112 (hd5040 _ _ _ (hp5032.rd (i := 1) rfl)) Row.len rfl (hr5042.inb hk5097)) rfl fun a w hS => ?_
          obtain ⟨A5098, c5099, hw5102, hp5100, hc5101⟩ := hr5042.get hk5097
          refine st1 hS (ovE (ldVA rfl (hd5040 _ _ _ (hp5032.rd (i := 1) rfl)) Row.len (hr5042.inb hk5097) Tryd.isAgg112 Tryd.sizeOf112 rfl) (congrArg (fun l => Value.agg ⟨l⟩) hw5102)) rfl fun a w hS => alc ([.int .i64 (0 : Int), .slice none 0 0]) hS Tryd.zeroValue112 rfl rfl fun w b5103 f5104 hB5105 hS => ?_
          obtain ⟨f5106, hV5107, hS⟩ := hS.nilV 3 (ci .i64) 1
          refine stB 1 ([.int .i64 ((rd zs5037 v5094).often_), .slice A5098 ((rd zs5037 v5094).symbols_).length c5099]) ([.int .i64 ((rd zs5037 v5094).often_), .slice A5098 ((rd zs5037 v5094).symbols_).length c5099]) hS rfl rfl hB5105 rfl rfl Tryd.sizeOf112 (by simp [Value.oneCell']) (Nat.le_of_ble_eq_true rfl) rfl fun w f5108 hB5109 hS => wpList_nil <| then_n <| wp_seq <| wp_region_list <| st1 hS (fad rfl Tryd.runUnderlying112 rfl Tryd.sizeOf45 rfl) rfl fun a w hS => st1 hS (ldb 1 rfl hB5109 rfl rfl Tryd.isAgg45) rfl fun a w hS => st1 hS (lenV rfl Tryd.runUnderlying45) rfl fun a w hS => st1 hS (mv rfl) rfl fun a w hS => wpList_nil <| then_n <| wp_block <| s_loopJ (fun k5128 a w => ∃ (out5124 : (List Int)) (f5125 : Frag) (v5127 : Int), Ss 109 [] [(9, .slice A1545 out5124.length c1546), (87, .slice A5038 rw5036.length c5039), (88, .int .i64 (zs5037.length : Int)), (89, .int .i64 v5094), (94, .slice A5098 ((rd zs5037 v5094).symbols_).length c5099), (95, .int .i64 (((rd zs5037 v5094).symbols_).length : Int)), (96, .int .i64 v5127)] H [f5125, p5023] F a w ∧ (Vec 3 (ci .i64) 1 A1545 out5124 c1546 f5125) ∧ (huff_Lengths.l8 K (huff_Lengths.l7 K zs5037 k5095) zs5037 v5094 k5128 out5124 v5127).wp kr kp) K ?_ ?_ ?_
          ·exact ⟨out5091, f5092, (0 : Int), hS.to [2, 3] (by kernel_rfl) ⟨rfl, rfl, rfl, rfl, rfl, rfl, rfl, trivial⟩, hV5093, hM⟩
          ·intro a w hI; obtain ⟨_, _, _, _, _, hM⟩ := hI; exact wp_fail hM
          ·intro k5128 a w hI J5137 hJ5137
           obtain ⟨out5124, f5125, v5127, hS, hV5126, hM⟩ := hI
           rw [huff_Lengths.l8] at hM
           refine wp_seq <| wp_region_list <| st1 hS (bin rfl rfl rfl) rfl fun a w hS => wpList_nil <| then_n <| wp_seq <| s_cond hS rfl hM (fun hb5129 hM => ?_) (fun hb5129 hM => ?_)
           ·refine wp_skip ?_
            refine then_n <| wp_seq <| wp_block <| wp_seq <| wp_region_list ?_
            obtain ⟨hk5130, hM⟩ := wp_chk hM
            refine st1 hS (ixV rfl rfl Tryd.runUnderlying45 Tryd.sizeOf3 (hp5100.rd (i := 1) rfl) (fun _ => rfl) rfl hk5130) rfl fun a w hS => st1 hS (ldV0 rfl (hp5100.rd (i := 1) rfl) (fun _ => rfl) hk5130 rfl Tryd.isAgg3) rfl fun a w hS => st1x (v := Value.int .i64) (x0 := (rd ((rd zs5037 v5094).symbols_) v5127)) hS (asg rfl) rfl fun s5131 a w hz hS => ?_
            have hM := lt_to hz hM; clear hz
            refine wpList_nil <| then_n <| wp_region_list <| st1 hS (mv rfl) rfl fun a w hS => st1 hS (mv rfl) rfl fun a w hS => ?_
            obtain ⟨hk5132, hM⟩ := wp_chk hM
            refine st1 hS (ixV rfl rfl Tryd.runUnderlying45 Tryd.sizeOf3 (hV5126.rd (i := 0) rfl) (fun _ => rfl) rfl hk5132) rfl fun a w hS => st1 hS (ldV0 rfl (hV5126.rd (i := 0) rfl) (fun _ => rfl) hk5132 rfl Tryd.isAgg3) rfl fun a w hS => st1 hS (bin rfl rfl rfl) rfl fun a w hS => st1 hS (ixV rfl rfl Tryd.runUnderlying45 Tryd.sizeOf3 (hV5126.rd (i := 0) rfl) (fun _ => rfl) rfl hk5132) rfl fun a w hS => stV (i := s5131) (sz := 1) 0 0 ((w64 ((rd out5124 s5131) + (1 : Int)))) hS rfl rfl hV5126 rfl Tryd.sizeOf3 (one_t3 (w64 ((rd out5124 s5131) + (1 : Int)))) (fun _ => rfl) hk5132 rfl rfl fun zs5135 w f5133 hz hz5136 hV5134 hS => ?_
            have hM := lt_to hz hM; clear hz
            replace hS := hS.re 9 (u := .slice A1545 out5124.length c1546) (v := .slice A1545 zs5135.length c1546) rfl (by rw [hz5136])
            replace hS := hS.re 100 (u := .slice A1545 out5124.length c1546) (v := .slice A1545 zs5135.length c1546) rfl (by rw [hz5136])
            refine wpList_nil <| blk_n (then_n ?_)
            refine wp_region_list <| st1 hS (bin rfl rfl rfl) rfl fun a w hS => st1 hS (mv rfl) rfl fun a w hS => wpList_nil <| then_n ?_
            exact hJ5137 _ _ ⟨zs5135, f5133, (w64 (v5127 + (1 : Int))), hS.to [0, 1] (by kernel_rfl) ⟨rfl, rfl, rfl, rfl, rfl, rfl, rfl, trivial⟩, hV5134, hM⟩
           ·refine wp_exit ?_
            refine then_ex (then_ex (blk_same (blk_n (then_n ?_))))
            refine wp_region_list <| st1 hS (bin rfl rfl rfl) rfl fun a w hS => st1 hS (mv rfl) rfl fun a w hS => wpList_nil <| then_n ?_
            exact hJ5138 _ _ ⟨out5124, f5125, (w64 (v5094 + (1 : Int))), hS.to [0, 1] (by kernel_rfl) ⟨rfl, rfl, rfl, rfl, trivial⟩, hV5126, hM⟩
         ·refine wp_exit ?_
          refine then_ex (then_ex (blk_same (then_n ?_)))
          refine wp_seq <| wp_region_list <| st1 hS (mv rfl) rfl fun a w hS => st1 hS (asg rfl) rfl fun a w hS => st1 hS (asg rfl) rfl fun a w hS => wpList_nil <| then_n <| wp_ret ?_
          exact s_ret (rs := [4, 5]) hS rfl rfl (hret A1545 c1546 out5091 f5092 (0 : Int) w (wp_ok hM) hV5093 (hS.st.pick [0] (by kernel_rfl)))

theorem deflate_own_fd7d_c {H : Imm} {F : List Frag} {w : World} {R : Ending → World → Prop} {kr : ((List Int) × (List Int)) → Prop} {kp : Value → Prop} (hG : Gl H) (K : Nat) (often1350 : List Int) (A1351 : Option Addr) (c1352 : Nat) (f1353 : Frag) (hV1354 : Vec 3 (ci .i64) 1 A1351 often1350 c1352 f1353)
    (hS : St w H [f1353] F) (hm : (deflate_own_fd7d.m K often1350).wp kr kp)
    (hret : ∀ (A5151 : Option Addr) (c5152 : Nat) (x5153 : (List Int)) (f5154 : Frag) (often5156 : (List Int)) (f5157 : Frag) (w : World), kr (x5153, often5156) → (Vec 3 (ci .i64) 1 A5151 x5153 c5152 f5154) → (Vec 3 (ci .i64) 1 A1351 often5156 c1352 f5157) → (often5156.length = often1350.length) → St w H [f5154, f5157] F → R (.returned (.slice A5151 x5153.length c5152)) w)
    (hpan : ∀ v w, kp v → St w H [] F → R (.panicked [⟨v, false, false⟩]) w) :
    Calls Tryd.prog 38 ⟨[.slice A1351 often1350.length c1352]⟩ w R := by
 refine enter Tryd.func38 rfl Tryd.ntmps38 rfl hS fun a w hS => ?_
 have hM := hm; clear hm
 rw [deflate_own_fd7d.m] at hM
 have hz1355 : often1350.length = often1350.length := rfl
 refine wp_seq <| wp_region_list <| st1 hS (asg rfl) rfl fun a w hS => ?_
 obtain ⟨f1356, hV1357, hS⟩ := hS.nilV 3 (ci .i64) 1
 refine wpList_nil <| then_n <| wp_seq <| wp_region_list <| st1 hS (asg rfl) rfl fun a w hS => wpList_nil <| then_n <| seq_joinJ (fun a w => ∃ (n_1366 : Int), Ss 43 [] [(0, .slice A1351 often1350.length c1352), (3, .int .i64 n_1366)] H [f1353] F a w ∧ (deflate_own_fd7d.j2 K often1350 n_1366).wp kr kp) (fun J1367 hJ1367 => ?_) ?_
 ·refine wp_seq ?_
  refine wp_region_list <| st1 hS (mv rfl) rfl fun a w hS => st1 hS (lenV rfl Tryd.runUnderlying45) rfl fun a w hS => st1 hS (mv rfl) rfl fun a w hS => wpList_nil <| then_n <| wp_block <| s_loopJ (fun k1360 a w => ∃ (n_1358 : Int) (v1359 : Int), Ss 43 [] [(0, .slice A1351 often1350.length c1352), (3, .int .i64 n_1358), (9, .slice A1351 often1350.length c1352), (10, .int .i64 (often1350.length : Int)), (11, .int .i64 v1359)] H [f1353] F a w ∧ (deflate_own_fd7d.l1 K often1350 k1360 n_1358 v1359).wp kr kp) K ?_ ?_ ?_
  ·exact ⟨(0 : Int), (0 : Int), hS.to [1] (by kernel_rfl) ⟨rfl, rfl, rfl, rfl, rfl, trivial⟩, hM⟩
  ·intro a w hI; obtain ⟨_, _, _, hM⟩ := hI; exact wp_fail hM
  ·intro k1360 a w hI J1365 hJ1365
   obtain ⟨n_1358, v1359, hS, hM⟩ := hI
   rw [deflate_own_fd7d.l1] at hM
   refine wp_seq <| wp_region_list <| st1 hS (bin rfl rfl rfl) rfl fun a w hS => wpList_nil <| then_n <| wp_seq <| s_cond hS rfl hM (fun hb1361 hM => ?_) (fun hb1361 hM => ?_)
   ·refine wp_skip ?_
    refine then_n <| wp_seq <| wp_block <| wp_seq <| wp_region_list ?_
    obtain ⟨hk1362, hM⟩ := wp_chk hM
    refine st1 hS (ixV rfl rfl Tryd.runUnderlying45 Tryd.sizeOf3 (hV1354.rd (i := 0) rfl) (fun _ => rfl) rfl hk1362) rfl fun a w hS => st1 hS (ldV0 rfl (hV1354.rd (i := 0) rfl) (fun _ => rfl) hk1362 rfl Tryd.isAgg3) rfl fun a w hS => st1x (v := Value.int .i64) (x0 := (rd often1350 v1359)) hS (asg rfl) rfl fun k_1363 a w hz hS => ?_
    have hM := lt_to hz hM; clear hz
    refine wpList_nil <| then_n <| wp_region_list <| st1 hS (mv rfl) rfl fun a w hS => st1 hS (mv rfl) rfl fun a w hS => st1 hS (minI rfl rfl) rfl fun a w hS => st1 hS (bin rfl rfl rfl) rfl fun a w hS => st1x (v := Value.int .i64) (x0 := (w64 (n_1358 + (if (1 : Int) < k_1363 then (1 : Int) else k_1363)))) hS (asg rfl) rfl fun n_1364 a w hz hS => ?_
    have hM := lt_to hz hM; clear hz
    refine wpList_nil <| blk_n (then_n ?_)
    refine wp_region_list <| st1 hS (bin rfl rfl rfl) rfl fun a w hS => st1 hS (mv rfl) rfl fun a w hS => wpList_nil <| then_n ?_
    exact hJ1365 _ _ ⟨n_1364, (w64 (v1359 + (1 : Int))), hS.to [0] (by kernel_rfl) ⟨rfl, rfl, rfl, rfl, rfl, trivial⟩, hM⟩
   ·refine wp_exit ?_
    refine then_ex (then_ex (blk_same (then_n ?_)))
    exact hJ1367 _ _ ⟨n_1358, hS.to [0] (by kernel_rfl) ⟨rfl, rfl, trivial⟩, hM⟩
 ·intro a w hI
  obtain ⟨n_1366, hS, hM⟩ := hI
  rw [deflate_own_fd7d.j2] at hM
  refine seq_joinJ (fun a w => ∃ (often1407 : (List Int)) (f1408 : Frag), Ss 43 [] [(0, .slice A1351 often1407.length c1352)] H [f1408] F a w ∧ (Vec 3 (ci .i64) 1 A1351 often1407 c1352 f1408) ∧ (often1407.length = often1350.length) ∧ (deflate_own_fd7d.j4 K often1407).wp kr kp) (fun J1411 hJ1411 => ?_) ?_
  ·refine wp_seq ?_
   refine wp_region_list <| st1 hS (asg rfl) rfl fun a w hS => wpList_nil <| then_n <| wp_block <| s_loopJ (fun k1394 a w => ∃ (often1388 : (List Int)) (f1389 : Frag) (n_1392 : Int) (i1393 : Int), Ss 43 [] [(0, .slice A1351 often1388.length c1352), (3, .int .i64 n_1392), (6, .int .i64 i1393)] H [f1389] F a w ∧ (Vec 3 (ci .i64) 1 A1351 often1388 c1352 f1389) ∧ (often1388.length = often1350.length) ∧ (deflate_own_fd7d.l3 K k1394 often1388 n_1392 i1393).wp kr kp) K ?_ ?_ ?_
   ·exact ⟨often1350, f1353, n_1366, (0 : Int), hS.to [0] (by kernel_rfl) ⟨rfl, rfl, rfl, trivial⟩, hV1354, hz1355, hM⟩
   ·intro a w hI; obtain ⟨_, _, _, _, _, _, _, hM⟩ := hI; exact wp_fail hM
   ·intro k1394 a w hI J1406 hJ1406
    obtain ⟨often1388, f1389, n_1392, i1393, hS, hV1390, hz1391, hM⟩ := hI
    rw [deflate_own_fd7d.l3] at hM
    refine wp_seq <| wp_seq <| wp_region_list <| st1 hS (mv rfl) rfl fun a w hS => st1 hS (bin rfl rfl rfl) rfl fun a w hS => wpList_nil <| then_n <| s_cond hS rfl hM (fun hb1395 hM => ?_) (fun hb1395 hM => ?_)
    ·refine wp_skip ?_
     refine then_n <| wp_seq <| wp_block <| wp_seq <| wp_region_list <| st1 hS (mv rfl) rfl fun a w hS => st1 hS (mv rfl) rfl fun a w hS => ?_
     obtain ⟨hk1396, hM⟩ := wp_chk hM
     refine st1 hS (ixV rfl rfl Tryd.runUnderlying45 Tryd.sizeOf3 (hV1390.rd (i := 0) rfl) (fun _ => rfl) rfl hk1396) rfl fun a w hS => st1 hS (ldV0 rfl (hV1390.rd (i := 0) rfl) (fun _ => rfl) hk1396 rfl Tryd.isAgg3) rfl fun a w hS => st1 hS (bin rfl rfl rfl) rfl fun a w hS => wpList_nil <| then_n <| s_cond hS rfl hM (fun hb1397 hM => ?_) (fun hb1397 hM => ?_)
     ·refine wp_seq ?_
      refine wp_region_list <| st1 hS (mv rfl) rfl fun a w hS => st1 hS (mv rfl) rfl fun a w hS => st1 hS (ixV rfl rfl Tryd.runUnderlying45 Tryd.sizeOf3 (hV1390.rd (i := 0) rfl) (fun _ => rfl) rfl hk1396) rfl fun a w hS => st1 hS (ldV0 rfl (hV1390.rd (i := 0) rfl) (fun _ => rfl) hk1396 rfl Tryd.isAgg3) rfl fun a w hS => st1 hS (bin rfl rfl rfl) rfl fun a w hS => st1 hS (ixV rfl rfl Tryd.runUnderlying45 Tryd.sizeOf3 (hV1390.rd (i := 0) rfl) (fun _ => rfl) rfl hk1396) rfl fun a w hS => stV (i := i1393) (sz := 1) 0 0 ((w64 ((rd often1388 i1393) + (1 : Int)))) hS rfl rfl hV1390 rfl Tryd.sizeOf3 (one_t3 (w64 ((rd often1388 i1393) + (1 : Int)))) (fun _ => rfl) hk1396 rfl rfl fun zs1400 w f1398 hz hz1401 hV1399 hS => ?_
      have hM := lt_to hz hM; clear hz
      have hz1402 := Eq.trans hz1401 hz1391
      replace hS := hS.re 0 (u := .slice A1351 often1388.length c1352) (v := .slice A1351 zs1400.length c1352) rfl (by rw [hz1401])
      replace hS := hS.re 24 (u := .slice A1351 often1388.length c1352) (v := .slice A1351 zs1400.length c1352) rfl (by rw [hz1401])
      replace hS := hS.re 29 (u := .slice A1351 often1388.length c1352) (v := .slice A1351 zs1400.length c1352) rfl (by rw [hz1401])
      refine wpList_nil <| then_n <| wp_region_list <| st1 hS (mv rfl) rfl fun a w hS => st1 hS (bin rfl rfl rfl) rfl fun a w hS => st1x (v := Value.int .i64) (x0 := (w64 (n_1392 + (1 : Int)))) hS (asg rfl) rfl fun n_1403 a w hz hS => ?_
      have hM := lt_to hz hM; clear hz
      refine wpList_nil <| blk_n (then_n ?_)
      refine wp_region_list <| st1 hS (mv rfl) rfl fun a w hS => st1 hS (bin rfl rfl rfl) rfl fun a w hS => st1x (v := Value.int .i64) (x0 := (w64 (i1393 + (1 : Int)))) hS (asg rfl) rfl fun i1404 a w hz hS => ?_
      have hM := lt_to hz hM; clear hz
      refine wpList_nil <| then_n ?_
      exact hJ1406 _ _ ⟨zs1400, f1398, n_1403, i1404, hS.to [0] (by kernel_rfl) ⟨rfl, rfl, rfl, trivial⟩, hV1399, hz1402, hM⟩
     ·refine wp_skip ?_
      refine blk_n (then_n ?_)
      refine wp_region_list <| st1 hS (mv rfl) rfl fun a w hS => st1 hS (bin rfl rfl rfl) rfl fun a w hS => st1x (v := Value.int .i64) (x0 := (w64 (i1393 + (1 : Int)))) hS (asg rfl) rfl fun i1405 a w hz hS => ?_
      have hM := lt_to hz hM; clear hz
      refine wpList_nil <| then_n ?_
      exact hJ1406 _ _ ⟨often1388, f1389, n_1392, i1405, hS.to [0] (by kernel_rfl) ⟨rfl, rfl, rfl, trivial⟩, hV1390, hz1391, hM⟩
    ·refine wp_exit ?_
     refine then_ex (then_ex (blk_same (then_n ?_)))
     exact hJ1411 _ _ ⟨often1388, f1389, hS.to [0] (by kernel_rfl) ⟨rfl, trivial⟩, hV1390, hz1391, hM⟩
  ·intro a w hI
   obtain ⟨often1407, f1408, hS, hV1409, hz1410, hM⟩ := hI
   rw [deflate_own_fd7d.j4] at hM
   refine wp_seq <| wp_region_list <| st1 hS (mv rfl) rfl fun a w hS => s_call hS rfl Tryd.call40 (huff_Lengths_c hG K often1407 (15 : Int) A1351 c1352 (hV1409.rdF (i := 0) rfl) (hV1409.cap (fun _ => rfl) rfl) (hS.st.part 0 [0] (by kernel_rfl)) (wp_bind hM) (fun A5145 c5146 x5147 f5148 x5149 w hM h5150 hst => s_back hS.ev hst.appF rfl fun hS => ?_) (fun v w hk hst => s_pan (then_pan (⟨hS.ev.defs, hpan _ _ hk hst.appF.frame⟩))))
   replace hS : Ss _ _ _ H [f5148, f1408] F _ _ := hS
   refine st1 hS (mv rfl) rfl fun a w hS => st1 hS (ex rfl rfl) rfl fun a w hS => st1 hS (ex rfl rfl) rfl fun a w hS => st1 hS (asg rfl) rfl fun a w hS => st1 hS (asg rfl) rfl fun a w hS => wpList_nil <| then_n <| wp_seq <| wp_region_list <| st1 hS (mv rfl) rfl fun a w hS => st1 hS (asg rfl) rfl fun a w hS => wpList_nil <| then_n <| wp_ret ?_
   exact s_ret (rs := [2]) hS rfl rfl (hret A5145 c5146 x5147 f5148 often1407 f1408 w (wp_ok hM) h5150 hV1409 hz1410 (hS.st.pick [0, 1] (by kernel_rfl)))

theorem deflate_packed_c {H : Imm} {F : List Frag} {w : World} {R : Ending → World → Prop} {kr : (List T_deflate_item) → Prop} {kp : Value → Prop} (hG : Gl H) (K : Nat) (row5209 : List Int) (A5210 : Option Addr) (c5211 : Nat) (hr5212 : Rdl H [] F (ci .i64) A5210 row5209) (hc5213 : row5209.length ≤ c5211)
    (hS : St w H [] F) (hm : (deflate_packed.m K row5209).wp kr kp)
    (hret : ∀ (A5370 : Option Addr) (c5371 : Nat) (x5372 : (List T_deflate_item)) (f5373 : Frag) (w : World), kr x5372 → (Vec 75 T_deflate_item.cells 3 A5370 x5372 c5371 f5373) → St w H [f5373] F → R (.returned (.slice A5370 x5372.length c5371)) w) :
    Calls Tryd.prog 39 ⟨[.slice A5210 row5209.length c5211]⟩ w R := by
 refine enter Tryd.func39 rfl Tryd.ntmps39 rfl hS fun a w hS => ?_
 have hM := hm; clear hm
 rw [deflate_packed.m] at hM
 refine wp_seq <| wp_region_list <| st1 hS (asg rfl) rfl fun a w hS => ?_
 obtain ⟨f5214, hV5215, hS⟩ := hS.nilV 75 T_deflate_item.cells 3
 refine wpList_nil <| then_n <| wp_seq <| wp_region_list <| st1 hS (asg rfl) rfl fun a w hS => ?_
 obtain ⟨f5216, hV5217, hS⟩ := hS.nilV 75 T_deflate_item.cells 3
 refine wpList_nil <| then_n <| wp_seq <| wp_seq <| wp_region_list <| st1 hS (asg rfl) rfl fun a w hS => wpList_nil <| then_n <| wp_block <| s_loopJ (fun k5300 a w => ∃ (A5294 : Option Addr) (c5295 : Nat) (out5296 : (List T_deflate_item)) (f5297 : Frag) (i5299 : Int), Ss 93 [] [(0, .slice A5210 row5209.length c5211), (3, .slice A5294 out5296.length c5295), (4, .int .i64 i5299)] H [f5297] F a w ∧ (Vec 75 T_deflate_item.cells 3 A5294 out5296 c5295 f5297) ∧ (deflate_packed.l1 K row5209 k5300 out5296 i5299).wp kr kp) K ?_ ?_ ?_
 ·exact ⟨none, 0, ([] : List T_deflate_item), f5216, (0 : Int), hS.to [0] (by kernel_rfl) ⟨rfl, rfl, rfl, trivial⟩, hV5217, hM⟩
 ·intro a w hI; obtain ⟨_, _, _, _, _, _, _, hM⟩ := hI; exact wp_fail hM
 ·intro k5300 a w hI J5369 hJ5369
  obtain ⟨A5294, c5295, out5296, f5297, i5299, hS, hV5298, hM⟩ := hI
  rw [deflate_packed.l1] at hM
  refine wp_seq <| wp_seq <| wp_region_list <| st1 hS (mv rfl) rfl fun a w hS => st1 hS (mv rfl) rfl fun a w hS => st1 hS (lenV rfl Tryd.runUnderlying45) rfl fun a w hS => st1 hS (bin rfl rfl rfl) rfl fun a w hS => wpList_nil <| then_n <| s_cond hS rfl hM (fun hb5301 hM => ?_) (fun hb5301 hM => ?_)
  ·refine wp_skip ?_
   refine then_n <| wp_block <| wp_seq <| wp_region_list <| st1 hS (asg rfl) rfl fun a w hS => wpList_nil <| then_n <| seq_joinJ (fun a w => ∃ (n_5314 : Int), Ss 93 [] [(0, .slice A5210 row5209.length c5211), (3, .slice A5294 out5296.length c5295), (4, .int .i64 i5299), (5, .int .i64 n_5314)] H [f5297] F a w ∧ (deflate_packed.j4 K (deflate_packed.l1 K row5209 k5300) row5209 out5296 i5299 n_5314).wp kr kp) (fun J5315 hJ5315 => ?_) ?_
   ·refine wp_block ?_
    refine s_loopJ (fun k5303 a w => ∃ (n_5302 : Int), Ss 93 [] [(0, .slice A5210 row5209.length c5211), (3, .slice A5294 out5296.length c5295), (4, .int .i64 i5299), (5, .int .i64 n_5302)] H [f5297] F a w ∧ (deflate_packed.l2 K (deflate_packed.l1 K row5209 k5300) row5209 out5296 i5299 k5303 n_5302).wp kr kp) K ?_ ?_ ?_
    ·exact ⟨(1 : Int), hS.to [0] (by kernel_rfl) ⟨rfl, rfl, rfl, rfl, trivial⟩, hM⟩
    ·intro a w hI; obtain ⟨_, _, hM⟩ := hI; exact wp_fail hM
    ·intro k5303 a w hI J5313 hJ5313
     obtain ⟨n_5302, hS, hM⟩ := hI
     rw [deflate_packed.l2] at hM
     refine wp_seq <| seq_joinJ (fun a w => ∃ (v5309 : Bool), Ss 93 [] [(0, .slice A5210 row5209.length c5211), (3, .slice A5294 out5296.length c5295), (4, .int .i64 i5299), (5, .int .i64 n_5302), (28, .bool v5309)] H [f5297] F a w ∧ (deflate_packed.j3 K (deflate_packed.l1 K row5209 k5300) (deflate_packed.l2 K (deflate_packed.l1 K row5209 k5300) row5209 out5296 i5299 k5303) row5209 out5296 i5299 n_5302 v5309).wp kr kp) (fun J5310 hJ5310 => ?_) ?_
     ·refine ifB (b := (decide ((w64 (i5299 + n_5302)) < (row5209.length : Int)))) hM (fun hb5304 hM => ?_) (fun hb5304 hM => ?_)
      ·obtain ⟨hk5306, hM⟩ := wp_chk hM
       obtain ⟨hk5308, hM⟩ := wp_chk hM
       refine draw_begin (vals := [some (.int .i64 i5299), some (.int .i64 n_5302), some (.int .i64 (w64 (i5299 + n_5302))), some (.slice A5210 row5209.length c5211), some (.int .i64 (row5209.length : Int)), some (.bool true), some (.bool true), some (.slice A5210 row5209.length c5211), some (.int .i64 i5299), some (.int .i64 n_5302), some (.int .i64 (w64 (i5299 + n_5302))), some (slp A5210 (Int.toNat (w64 (i5299 + n_5302)) * 1)), some (.int .i64 (rd row5209 (w64 (i5299 + n_5302)))), some (.slice A5210 row5209.length c5211), some (.int .i64 i5299), some (slp A5210 (Int.toNat i5299 * 1)), some (.int .i64 (rd row5209 i5299)), some (.bool ((rd row5209 (w64 (i5299 + n_5302))) == (rd row5209 i5299))), some (.bool ((rd row5209 (w64 (i5299 + n_5302))) == (rd row5209 i5299)))]) hS mixed rfl ?_
       intro l w ho hcl hA hst
       refine phqE hA hst ho hcl nmust [0, 1, 2, 3, 4, 5, 6, 7, 8, 9, 10, 11, 12, 13, 14, 15, 16, 17, 18] rfl rfl rfl (by exact ⟨nR rfl rfl rfl rfl rfl (by exact ovE (mv rfl) rfl), nR rfl rfl rfl rfl rfl (by exact ovE (mv rfl) rfl), nR rfl rfl rfl rfl rfl (by exact ovE (bin rfl rfl rfl) rfl), nR rfl rfl rfl rfl rfl (by exact ovE (mv rfl) rfl), nR rfl rfl rfl rfl rfl (by exact ovE (lenV rfl Tryd.runUnderlying45) rfl), nR rfl rfl rfl rfl rfl (by exact ovE (bin rfl rfl rfl) (congrArg Value.bool hb5304)), nR rfl rfl rfl rfl rfl (by exact ovE (mv rfl) rfl), nW rfl rfl rfl rfl rfl rfl rfl rfl (by exact ovE (mv rfl) rfl), nW rfl rfl rfl rfl rfl rfl rfl rfl (by exact ovE (mv rfl) rfl), nW rfl rfl rfl rfl rfl rfl rfl rfl (by exact ovE (mv rfl) rfl), nW rfl rfl rfl rfl rfl rfl rfl rfl (by exact ovE (bin rfl rfl rfl) rfl), nW rfl rfl rfl rfl rfl rfl rfl rfl (by exact ovE (ixV rfl rfl Tryd.runUnderlying45 Tryd.sizeOf3 hr5212.wk (fun _ => rfl) rfl hk5306) rfl), nW rfl rfl rfl rfl rfl rfl rfl rfl (by exact ovE (ldV0 rfl hr5212.wk (fun _ => rfl) hk5306 rfl Tryd.isAgg3) rfl), nW rfl rfl rfl rfl rfl rfl rfl rfl (by exact ovE (mv rfl) rfl), nW rfl rfl rfl rfl rfl rfl rfl rfl (by exact ovE (mv rfl) rfl), nW rfl rfl rfl rfl rfl rfl rfl rfl (by exact ovE (ixV rfl rfl Tryd.runUnderlying45 Tryd.sizeOf3 hr5212.wk (fun _ => rfl) rfl hk5308) rfl), nW rfl rfl rfl rfl rfl rfl rfl rfl (by exact ovE (ldV0 rfl hr5212.wk (fun _ => rfl) hk5308 rfl Tryd.isAgg3) rfl), nW rfl rfl rfl rfl rfl rfl rfl rfl (by exact ovE (bin rfl rfl rfl) rfl), nR rfl rfl rfl rfl rfl (by exact ovE (pk rfl rfl rfl) rfl), trivial⟩) fun a w hS => ?_
       replace hS := hS.env2 (e' := [(0, .slice A5210 row5209.length c5211), (3, .slice A5294 out5296.length c5295), (4, .int .i64 i5299), (5, .int .i64 n_5302), (28, .bool ((rd row5209 (w64 (i5299 + n_5302))) == (rd row5209 i5299)))]) ⟨rfl, rfl, rfl, rfl, rfl, trivial⟩
       refine then_n ?_
       exact hJ5310 _ _ ⟨((rd row5209 (w64 (i5299 + n_5302))) == (rd row5209 i5299)), hS.to [0] (by kernel_rfl) ⟨rfl, rfl, rfl, rfl, rfl, trivial⟩, hM⟩
      ·refine draw_begin (vals := [some (.int .i64 i5299), some (.int .i64 n_5302), some (.int .i64 (w64 (i5299 + n_5302))), some (.slice A5210 row5209.length c5211), some (.int .i64 (row5209.length : Int)), some (.bool false), some (.bool false), some (undef), some (undef), some (undef), some (undef), some (undef), some (undef), some (undef), some (undef), some (undef), some (undef), some (undef), some (.bool false)]) hS mixed rfl ?_
       intro l w ho hcl hA hst
       refine phqE hA hst ho hcl nmust [0, 1, 2, 3, 4, 5, 6, 7, 8, 9, 10, 11, 12, 13, 14, 15, 16, 17, 18] rfl rfl rfl (by exact ⟨nR rfl rfl rfl rfl rfl (by exact ovE (mv rfl) rfl), nR rfl rfl rfl rfl rfl (by exact ovE (mv rfl) rfl), nR rfl rfl rfl rfl rfl (by exact ovE (bin rfl rfl rfl) rfl), nR rfl rfl rfl rfl rfl (by exact ovE (mv rfl) rfl), nR rfl rfl rfl rfl rfl (by exact ovE (lenV rfl Tryd.runUnderlying45) rfl), nR rfl rfl rfl rfl rfl (by exact ovE (bin rfl rfl rfl) (congrArg Value.bool hb5304)), nR rfl rfl rfl rfl rfl (by exact ovE (mv rfl) rfl), nS rfl rfl rfl rfl rfl rfl rfl rfl rfl, nS rfl rfl rfl rfl rfl rfl rfl rfl rfl, nS rfl rfl rfl rfl rfl rfl rfl rfl rfl, nS rfl rfl rfl rfl rfl rfl rfl rfl rfl, nS rfl rfl rfl rfl rfl rfl rfl rfl rfl, nS rfl rfl rfl rfl rfl rfl rfl rfl rfl, nS rfl rfl rfl rfl rfl rfl rfl rfl rfl, nS rfl rfl rfl rfl rfl rfl rfl rfl rfl, nS rfl rfl rfl rfl rfl rfl rfl rfl rfl, nS rfl rfl rfl rfl rfl rfl rfl rfl rfl, nS rfl rfl rfl rfl rfl rfl rfl rfl rfl, nR rfl rfl rfl rfl rfl (by exact ovE (pk rfl rfl rfl) rfl), trivial⟩) fun a w hS => ?_
       replace hS := hS.env2 (e' := [(0, .slice A5210 row5209.length c5211), (3, .slice A5294 out5296.length c5295), (4, .int .i64 i5299), (5, .int .i64 n_5302), (28, .bool false)]) ⟨rfl, rfl, rfl, rfl, rfl, trivial⟩
       refine then_n ?_
       exact hJ5310 _ _ ⟨false, hS.to [0] (by kernel_rfl) ⟨rfl, rfl, rfl, rfl, rfl, trivial⟩, hM⟩
     ·intro a w hI
      obtain ⟨v5309, hS, hM⟩ := hI
      rw [deflate_packed.j3] at hM
      refine s_cond hS rfl hM (fun hb5311 hM => ?_) (fun hb5311 hM => ?_)
      ·refine wp_skip ?_
       refine then_n <| wp_block <| wp_region_list <| st1 hS (mv rfl) rfl fun a w hS => st1 hS (bin rfl rfl rfl) rfl fun a w hS => st1x (v := Value.int .i64) (x0 := (w64 (n_5302 + (1 : Int)))) hS (asg rfl) rfl fun n_5312 a w hz hS => ?_
       have hM := lt_to hz hM; clear hz
       refine wpList_nil <| blk_n (then_n ?_)
       exact hJ5313 _ _ ⟨n_5312, hS.to [0] (by kernel_rfl) ⟨rfl, rfl, rfl, rfl, trivial⟩, hM⟩
      ·refine wp_exit ?_
       refine then_ex (then_ex (blk_same (then_n ?_)))
       exact hJ5315 _ _ ⟨n_5302, hS.to [0] (by kernel_rfl) ⟨rfl, rfl, rfl, rfl, trivial⟩, hM⟩
   ·intro a w hI
    obtain ⟨n_5314, hS, hM⟩ := hI
    rw [deflate_packed.j4] at hM
    refine wp_seq <| wp_block <| wp_seq <| wp_region_list <| st1 hS (mv rfl) rfl fun a w hS => st1 hS (mv rfl) rfl fun a w hS => ?_
    obtain ⟨hk5316, hM⟩ := wp_chk hM
    refine st1 hS (ixV rfl rfl Tryd.runUnderlying45 Tryd.sizeOf3 hr5212.wk (fun _ => rfl) rfl hk5316) rfl fun a w hS => st1 hS (ldV0 rfl hr5212.wk (fun _ => rfl) hk5316 rfl Tryd.isAgg3) rfl fun a w hS => st1 hS (bin rfl rfl rfl) rfl fun a w hS => st1 hS (mv rfl) rfl fun a w hS => g_op 2 true 45 (b := ((rd row5209 i5299) == (0 : Int))) (r := (decide (n_5314 ≥ (11 : Int)))) hS rfl rfl rfl rfl rfl rfl rfl (fun hb a w hS K hK => ?_) rfl fun a w hS => ?_
    ·refine st1g hS rfl rfl rfl hb (mv rfl) rfl fun a w hS => ?_
     refine st1g hS rfl rfl rfl hb (bin rfl rfl rfl) rfl fun a w hS => ?_
     exact wpList_nil (hK _ _ (hS.up 2 rfl rfl))
    refine st1x (v := Value.bool) (x0 := (((rd row5209 i5299) == (0 : Int)) && (decide (n_5314 ≥ (11 : Int))))) hS (asg rfl) rfl fun v5317 a w hz hS => ?_
    have hM := lt_to hz hM; clear hz
    refine wpList_nil <| then_n <| s_cond hS rfl hM (fun hb5318 hM => ?_) (fun hb5318 hM => ?_)
    ·refine wp_seq ?_
     refine wp_region_list <| st1 hS (mv rfl) rfl fun a w hS => st1 hS (minI rfl rfl) rfl fun a w hS => st1x (v := Value.int .i64) (x0 := (if (138 : Int) < n_5314 then (138 : Int) else n_5314)) hS (asg rfl) rfl fun n_5319 a w hz hS => ?_
     have hM := lt_to hz hM; clear hz
     refine wpList_nil <| then_n <| wp_region_list <| st1 hS (mv rfl) rfl fun a w hS => st1 hS (mv rfl) rfl fun a w hS => st1 hS (bin rfl rfl rfl) rfl fun a w hS => st1 hS (bld ([.int .i64 (18 : Int), .int .i64 (w64 (n_5319 - (11 : Int))), .int .i64 (7 : Int)]) [(0, 1), (1, 1), (2, 1)] Tryd.zeroValue75 Tryd.runUnderlying75 (by intro w; simp [Tryd.sizeOf3]) rfl rfl) rfl fun a w hS => bsl (g := T_deflate_item.cells) ([(T_deflate_item.mk (18 : Int) (w64 (n_5319 - (11 : Int))) (7 : Int))] : List T_deflate_item) [.agg ⟨[.int .i64 (18 : Int), .int .i64 (w64 (n_5319 - (11 : Int))), .int .i64 (7 : Int)]⟩] hS Tryd.runUnderlying72 Tryd.sizeOf75 X.el75 rfl rfl rfl (by simp [Value.cells]) rfl rfl rfl rfl rfl fun w A5320 c5321 f5322 hV5323 hS => ?_
     obtain ⟨hk5324, hM⟩ := wp_chk hM
     refine apV (ys := ([(T_deflate_item.mk (18 : Int) (w64 (n_5319 - (11 : Int))) (7 : Int))] : List T_deflate_item)) 1 hS rfl rfl hV5298 rfl (hV5323.rd (i := 0) rfl) Tryd.runUnderlying72 Tryd.runUnderlying72 X.el75 (fun _ => rfl) rfl one_t75 hk5324 rfl fun zs5329 w A5325 c5326 f5327 hz hV5328 hS => ?_
     have hM := lt_to hz hM; clear hz
     refine st1 hS (asg rfl) rfl fun a w hS => wpList_nil <| blk_n (then_n ?_)
     refine wp_region_list <| st1 hS (mv rfl) rfl fun a w hS => st1 hS (mv rfl) rfl fun a w hS => st1 hS (bin rfl rfl rfl) rfl fun a w hS => st1x (v := Value.int .i64) (x0 := (w64 (i5299 + n_5319))) hS (asg rfl) rfl fun i5330 a w hz hS => ?_
     have hM := lt_to hz hM; clear hz
     refine wpList_nil <| blk_n (then_n ?_)
     exact hJ5369 _ _ ⟨A5325, c5326, zs5329, f5327, i5330, hS.to [1] (by kernel_rfl) ⟨rfl, rfl, rfl, trivial⟩, hV5328, hM⟩
    ·refine wp_seq ?_
     refine wp_region_list <| st1 hS (mv rfl) rfl fun a w hS => st1 hS (mv rfl) rfl fun a w hS => st1 hS (ixV rfl rfl Tryd.runUnderlying45 Tryd.sizeOf3 hr5212.wk (fun _ => rfl) rfl hk5316) rfl fun a w hS => st1 hS (ldV0 rfl hr5212.wk (fun _ => rfl) hk5316 rfl Tryd.isAgg3) rfl fun a w hS => st1 hS (bin rfl rfl rfl) rfl fun a w hS => st1 hS (mv rfl) rfl fun a w hS => g_op 2 true 63 (b := ((rd row5209 i5299) == (0 : Int))) (r := (decide (n_5314 ≥ (3 : Int)))) hS rfl rfl rfl rfl rfl rfl rfl (fun hb a w hS K hK => ?_) rfl fun a w hS => ?_
     ·refine st1g hS rfl rfl rfl hb (mv rfl) rfl fun a w hS => ?_
      refine st1g hS rfl rfl rfl hb (bin rfl rfl rfl) rfl fun a w hS => ?_
      exact wpList_nil (hK _ _ (hS.up 2 rfl rfl))
     refine st1x (v := Value.bool) (x0 := (((rd row5209 i5299) == (0 : Int)) && (decide (n_5314 ≥ (3 : Int))))) hS (asg rfl) rfl fun v5331 a w hz hS => ?_
     have hM := lt_to hz hM; clear hz
     refine wpList_nil <| then_n <| s_cond hS rfl hM (fun hb5332 hM => ?_) (fun hb5332 hM => ?_)
     ·refine wp_region_list ?_
      refine st1 hS (mv rfl) rfl fun a w hS => st1 hS (mv rfl) rfl fun a w hS => st1 hS (bin rfl rfl rfl) rfl fun a w hS => st1 hS (bld ([.int .i64 (17 : Int), .int .i64 (w64 (n_5314 - (3 : Int))), .int .i64 (3 : Int)]) [(0, 1), (1, 1), (2, 1)] Tryd.zeroValue75 Tryd.runUnderlying75 (by intro w; simp [Tryd.sizeOf3]) rfl rfl) rfl fun a w hS => bsl (g := T_deflate_item.cells) ([(T_deflate_item.mk (17 : Int) (w64 (n_5314 - (3 : Int))) (3 : Int))] : List T_deflate_item) [.agg ⟨[.int .i64 (17 : Int), .int .i64 (w64 (n_5314 - (3 : Int))), .int .i64 (3 : Int)]⟩] hS Tryd.runUnderlying72 Tryd.sizeOf75 X.el75 rfl rfl rfl (by simp [Value.cells]) rfl rfl rfl rfl rfl fun w A5333 c5334 f5335 hV5336 hS => ?_
      obtain ⟨hk5337, hM⟩ := wp_chk hM
      refine apV (ys := ([(T_deflate_item.mk (17 : Int) (w64 (n_5314 - (3 : Int))) (3 : Int))] : List T_deflate_item)) 1 hS rfl rfl hV5298 rfl (hV5336.rd (i := 0) rfl) Tryd.runUnderlying72 Tryd.runUnderlying72 X.el75 (fun _ => rfl) rfl one_t75 hk5337 rfl fun zs5342 w A5338 c5339 f5340 hz hV5341 hS => ?_
      have hM := lt_to hz hM; clear hz
      refine st1 hS (asg rfl) rfl fun a w hS => wpList_nil <| blk_n (then_n ?_)
      refine wp_region_list <| st1 hS (mv rfl) rfl fun a w hS => st1 hS (mv rfl) rfl fun a w hS => st1 hS (bin rfl rfl rfl) rfl fun a w hS => st1x (v := Value.int .i64) (x0 := (w64 (i5299 + n_5314))) hS (asg rfl) rfl fun i5343 a w hz hS => ?_
      have hM := lt_to hz hM; clear hz
      refine wpList_nil <| blk_n (then_n ?_)
      exact hJ5369 _ _ ⟨A5338, c5339, zs5342, f5340, i5343, hS.to [1] (by kernel_rfl) ⟨rfl, rfl, rfl, trivial⟩, hV5341, hM⟩
     ·refine wp_seq ?_
      refine wp_region_list <| st1 hS (mv rfl) rfl fun a w hS => st1 hS (bin rfl rfl rfl) rfl fun a w hS => st1x (v := Value.bool) (x0 := (decide (n_5314 ≥ (4 : Int)))) hS (asg rfl) rfl fun v5344 a w hz hS => ?_
      have hM := lt_to hz hM; clear hz
      refine wpList_nil <| then_n <| s_cond hS rfl hM (fun hb5345 hM => ?_) (fun hb5345 hM => ?_)
      ·refine wp_seq ?_
       refine wp_region_list <| st1 hS (mv rfl) rfl fun a w hS => st1 hS (minI rfl rfl) rfl fun a w hS => st1x (v := Value.int .i64) (x0 := (if (7 : Int) < n_5314 then (7 : Int) else n_5314)) hS (asg rfl) rfl fun n_5346 a w hz hS => ?_
       have hM := lt_to hz hM; clear hz
       refine wpList_nil <| then_n <| wp_region_list <| st1 hS (mv rfl) rfl fun a w hS => st1 hS (mv rfl) rfl fun a w hS => st1 hS (mv rfl) rfl fun a w hS => st1 hS (ixV rfl rfl Tryd.runUnderlying45 Tryd.sizeOf3 hr5212.wk (fun _ => rfl) rfl hk5316) rfl fun a w hS => st1 hS (ldV0 rfl hr5212.wk (fun _ => rfl) hk5316 rfl Tryd.isAgg3) rfl fun a w hS => st1 hS (bld ([.int .i64 (rd row5209 i5299), .int .i64 (0 : Int), .int .i64 (0 : Int)]) [(0, 1), (1, 1), (2, 1)] Tryd.zeroValue75 Tryd.runUnderlying75 (by intro w; simp [Tryd.sizeOf3]) rfl rfl) rfl fun a w hS => st1 hS (mv rfl) rfl fun a w hS => st1 hS (bin rfl rfl rfl) rfl fun a w hS => st1 hS (bld ([.int .i64 (16 : Int), .int .i64 (w64 (n_5346 - (4 : Int))), .int .i64 (2 : Int)]) [(0, 1), (1, 1), (2, 1)] Tryd.zeroValue75 Tryd.runUnderlying75 (by intro w; simp [Tryd.sizeOf3]) rfl rfl) rfl fun a w hS => bsl (g := T_deflate_item.cells) ([(T_deflate_item.mk (rd row5209 i5299) (0 : Int) (0 : Int)), (T_deflate_item.mk (16 : Int) (w64 (n_5346 - (4 : Int))) (2 : Int))] : List T_deflate_item) [.agg ⟨[.int .i64 (rd row5209 i5299), .int .i64 (0 : Int), .int .i64 (0 : Int)]⟩, .agg ⟨[.int .i64 (16 : Int), .int .i64 (w64 (n_5346 - (4 : Int))), .int .i64 (2 : Int)]⟩] hS Tryd.runUnderlying72 Tryd.sizeOf75 X.el75 rfl rfl rfl (by simp [Value.cells]) rfl rfl rfl rfl rfl fun w A5347 c5348 f5349 hV5350 hS => ?_
       obtain ⟨hk5351, hM⟩ := wp_chk hM
       refine apV (ys := ([(T_deflate_item.mk (rd row5209 i5299) (0 : Int) (0 : Int)), (T_deflate_item.mk (16 : Int) (w64 (n_5346 - (4 : Int))) (2 : Int))] : List T_deflate_item)) 1 hS rfl rfl hV5298 rfl (hV5350.rd (i := 0) rfl) Tryd.runUnderlying72 Tryd.runUnderlying72 X.el75 (fun _ => rfl) rfl one_t75 hk5351 rfl fun zs5356 w A5352 c5353 f5354 hz hV5355 hS => ?_
       have hM := lt_to hz hM; clear hz
       refine st1 hS (asg rfl) rfl fun a w hS => wpList_nil <| blk_n (then_n ?_)
       refine wp_region_list <| st1 hS (mv rfl) rfl fun a w hS => st1 hS (mv rfl) rfl fun a w hS => st1 hS (bin rfl rfl rfl) rfl fun a w hS => st1x (v := Value.int .i64) (x0 := (w64 (i5299 + n_5346))) hS (asg rfl) rfl fun i5357 a w hz hS => ?_
       have hM := lt_to hz hM; clear hz
       refine wpList_nil <| blk_n (then_n ?_)
       exact hJ5369 _ _ ⟨A5352, c5353, zs5356, f5354, i5357, hS.to [1] (by kernel_rfl) ⟨rfl, rfl, rfl, trivial⟩, hV5355, hM⟩
      ·refine wp_seq ?_
       refine wp_region_list <| st1 hS (asg rfl) rfl fun a w hS => wpList_nil <| then_n <| wp_region_list <| st1 hS (mv rfl) rfl fun a w hS => st1 hS (mv rfl) rfl fun a w hS => st1 hS (mv rfl) rfl fun a w hS => st1 hS (ixV rfl rfl Tryd.runUnderlying45 Tryd.sizeOf3 hr5212.wk (fun _ => rfl) rfl hk5316) rfl fun a w hS => st1 hS (ldV0 rfl hr5212.wk (fun _ => rfl) hk5316 rfl Tryd.isAgg3) rfl fun a w hS => st1 hS (bld ([.int .i64 (rd row5209 i5299), .int .i64 (0 : Int), .int .i64 (0 : Int)]) [(0, 1), (1, 1), (2, 1)] Tryd.zeroValue75 Tryd.runUnderlying75 (by intro w; simp [Tryd.sizeOf3]) rfl rfl) rfl fun a w hS => bsl (g := T_deflate_item.cells) ([(T_deflate_item.mk (rd row5209 i5299) (0 : Int) (0 : Int))] : List T_deflate_item) [.agg ⟨[.int .i64 (rd row5209 i5299), .int .i64 (0 : Int), .int .i64 (0 : Int)]⟩] hS Tryd.runUnderlying72 Tryd.sizeOf75 X.el75 rfl rfl rfl (by simp [Value.cells]) rfl rfl rfl rfl rfl fun w A5358 c5359 f5360 hV5361 hS => ?_
       obtain ⟨hk5362, hM⟩ := wp_chk hM
       refine apV (ys := ([(T_deflate_item.mk (rd row5209 i5299) (0 : Int) (0 : Int))] : List T_deflate_item)) 1 hS rfl rfl hV5298 rfl (hV5361.rd (i := 0) rfl) Tryd.runUnderlying72 Tryd.runUnderlying72 X.el75 (fun _ => rfl) rfl one_t75 hk5362 rfl fun zs5367 w A5363 c5364 f5365 hz hV5366 hS => ?_
       have hM := lt_to hz hM; clear hz
       refine st1 hS (asg rfl) rfl fun a w hS => wpList_nil <| blk_n (then_n ?_)
       refine wp_region_list <| st1 hS (mv rfl) rfl fun a w hS => st1 hS (mv rfl) rfl fun a w hS => st1 hS (bin rfl rfl rfl) rfl fun a w hS => st1x (v := Value.int .i64) (x0 := (w64 (i5299 + (1 : Int)))) hS (asg rfl) rfl fun i5368 a w hz hS => ?_
       have hM := lt_to hz hM; clear hz
       refine wpList_nil <| blk_n (then_n ?_)
       exact hJ5369 _ _ ⟨A5363, c5364, zs5367, f5365, i5368, hS.to [1] (by kernel_rfl) ⟨rfl, rfl, rfl, trivial⟩, hV5366, hM⟩
  ·refine wp_exit ?_
   refine then_ex (then_ex (blk_same (then_n ?_)))
   refine wp_seq <| wp_region_list <| st1 hS (mv rfl) rfl fun a w hS => st1 hS (asg rfl) rfl fun a w hS => wpList_nil <| then_n <| wp_ret ?_
   exact s_ret (rs := [2]) hS rfl rfl (hret A5294 c5295 out5296 f5297 w (wp_ok hM) hV5298 (hS.st.pick [0] (by kernel_rfl)))

theorem deflate_writer_symbol_c {H : Imm} {F : List Frag} {w : World} {R : Ending → World → Prop} {kr : (Int × (List Int)) → Prop} {kp : Value → Prop} (hG : Gl H) (K : Nat) (w_5579 : T_deflate_writer) (c_5603 : T_deflate_code) (s5612 : Int) (b5580 : Nat) (f5581 : Frag) (A5583 : Option Addr) (c5584 : Nat) (f5585 : Frag) (A5587 : Option Addr) (c5588 : Nat) (f5589 : Frag) (A5591 : Option Addr) (c5592 : Nat) (f5593 : Frag) (A5595 : Option Addr) (c5596 : Nat) (f5597 : Frag) (A5599 : Option Addr) (c5600 : Nat) (f5601 : Frag) (A5604 : Option Addr) (c5605 : Nat) (A5608 : Option Addr) (c5609 : Nat) (hB5582 : Blk f5581 b5580 ([.int .i64 w_5579.Writer_.place_.at_, .slice A5583 w_5579.Writer_.bytes_.length c5584, .slice A5587 w_5579.literals_.lengths_.length c5588, .slice A5591 w_5579.literals_.codes_.length c5592, .slice A5595 w_5579.distances_.lengths_.length c5596, .slice A5599 w_5579.distances_.codes_.length c5600]) 49) (hV5586 : Vec 5 (ci .u8) 1 A5583 w_5579.Writer_.bytes_ c5584 f5585) (hV5590 : Vec 3 (ci .i64) 1 A5587 w_5579.literals_.lengths_ c5588 f5589) (hV5594 : Vec 3 (ci .i64) 1 A5591 w_5579.literals_.codes_ c5592 f5593) (hV5598 : Vec 3 (ci .i64) 1 A5595 w_5579.distances_.lengths_ c5596 f5597) (hV5602 : Vec 3 (ci .i64) 1 A5599 w_5579.distances_.codes_ c5600 f5601) (hr5606 : Rdl H [] F (ci .i64) A5604 c_5603.lengths_) (hc5607 : c_5603.lengths_.length ≤ c5605) (hr5610 : Rdl H [] F (ci .i64) A5608 c_5603.codes_) (hc5611 : c_5603.codes_.length ≤ c5609)
    (hS : St w H [f5581, f5585, f5589, f5593, f5597, f5601] F) (hm : (deflate_writer_symbol.m K w_5579 c_5603 s5612).wp kr kp)
    (hret : ∀ (at_5670 : Int) (A5671 : Option Addr) (c5672 : Nat) (bytes5673 : (List Int)) (f5674 : Frag) (f5676 : Frag) (w : World), kr (at_5670, bytes5673) → (Vec 5 (ci .u8) 1 A5671 bytes5673 c5672 f5674) → (Blk f5676 b5580 ([.int .i64 at_5670, .slice A5671 bytes5673.length c5672, .slice A5587 w_5579.literals_.lengths_.length c5588, .slice A5591 w_5579.literals_.codes_.length c5592, .slice A5595 w_5579.distances_.lengths_.length c5596, .slice A5599 w_5579.distances_.codes_.length c5600]) 49) → St w H [f5676, f5674, f5589, f5593, f5597, f5601] F → R (.returned (.tuple ⟨[]⟩)) w) :
    Calls Tryd.prog 41 ⟨[ptr b5580 0, .agg ⟨[.slice A5604 c_5603.lengths_.length c5605, .slice A5608 c_5603.codes_.length c5609]⟩, .int .i64 s5612]⟩ w R := by
 refine enter Tryd.func41 rfl Tryd.ntmps41 rfl hS fun a w hS => ?_
 have hM := hm; clear hm
 rw [deflate_writer_symbol.m] at hM
 refine wp_seq <| wp_region_list <| bx ([.slice A5604 c_5603.lengths_.length c5605, .slice A5608 c_5603.codes_.length c5609]) hS rfl rfl rfl fun w b5613 f5614 hB5615 hS => wpList_nil <| then_n <| wp_seq <| wp_region_list <| st1 hS (fad rfl Tryd.runUnderlying47 rfl Tryd.sizeOf45 rfl) rfl fun a w hS => st1 hS (ldb 0 rfl hB5615 rfl rfl Tryd.isAgg45) rfl fun a w hS => st1 hS (mv rfl) rfl fun a w hS => ?_
 obtain ⟨hk5616, hM⟩ := wp_chk hM
 refine st1 hS (ixV rfl rfl Tryd.runUnderlying45 Tryd.sizeOf3 hr5606.wk (fun _ => rfl) rfl hk5616) rfl fun a w hS => st1 hS (ldV0 rfl hr5606.wk (fun _ => rfl) hk5616 rfl Tryd.isAgg3) rfl fun a w hS => st1 hS (bin rfl rfl rfl) rfl fun a w hS => st1x (v := Value.int .i64) (x0 := (w64 ((rd c_5603.lengths_ s5612) - (1 : Int)))) hS (asg rfl) rfl fun i5617 a w hz hS => ?_
 have hM := lt_to hz hM; clear hz
 refine wpList_nil <| then_n <| wp_block <| s_loopJ (fun k5653 a w => ∃ (at_5644 : Int) (A5645 : Option Addr) (c5646 : Nat) (bytes5647 : (List Int)) (f5648 : Frag) (f5650 : Frag) (i5652 : Int), Ss 30 [] [(0, ptr b5580 0), (2, .int .i64 s5612), (4, ptr b5613 0), (6, .int .i64 i5652)] H [f5650, f5648, f5589, f5593, f5597, f5601, f5614] F a w ∧ (Vec 5 (ci .u8) 1 A5645 bytes5647 c5646 f5648) ∧ (Blk f5650 b5580 ([.int .i64 at_5644, .slice A5645 bytes5647.length c5646, .slice A5587 w_5579.literals_.lengths_.length c5588, .slice A5591 w_5579.literals_.codes_.length c5592, .slice A5595 w_5579.distances_.lengths_.length c5596, .slice A5599 w_5579.distances_.codes_.length c5600]) 49) ∧ (deflate_writer_symbol.l1 K w_5579 c_5603 s5612 k5653 at_5644 bytes5647 i5652).wp kr kp) K ?_ ?_ ?_
 ·exact ⟨w_5579.Writer_.place_.at_, A5583, c5584, w_5579.Writer_.bytes_, f5585, f5581, i5617, hS.to [1, 2, 3, 4, 5, 6, 0] (by kernel_rfl) ⟨rfl, rfl, rfl, rfl, trivial⟩, hV5586, hB5582, hM⟩
 ·intro a w hI; obtain ⟨_, _, _, _, _, _, _, _, _, _, hM⟩ := hI; exact wp_fail hM
 ·intro k5653 a w hI J5669 hJ5669
  obtain ⟨at_5644, A5645, c5646, bytes5647, f5648, f5650, i5652, hS, hV5649, hB5651, hM⟩ := hI
  rw [deflate_writer_symbol.l1] at hM
  refine wp_seq <| wp_seq <| wp_region_list <| st1 hS (mv rfl) rfl fun a w hS => st1 hS (bin rfl rfl rfl) rfl fun a w hS => wpList_nil <| then_n <| s_cond hS rfl hM (fun hb5654 hM => ?_) (fun hb5654 hM => ?_)
  ·refine wp_skip ?_
   refine then_n <| wp_seq <| wp_block ?_
   obtain ⟨hk5656, hM⟩ := wp_chk hM
   obtain ⟨hk5658, hM⟩ := wp_chk hM
   refine draw_begin (vals := [some (ptr b5580 0), some (ptr b5580 0), some (ptr b5580 0), some (ptr b5613 1), some (.slice A5608 c_5603.codes_.length c5609), some (.int .i64 s5612), some (slp A5608 (Int.toNat s5612 * 1)), some (.int .i64 (rd c_5603.codes_ s5612)), some (.int .i64 i5652), some (.int .i64 (ishr .i64 (rd c_5603.codes_ s5612) i5652)), some (.int .i64 (iand .i64 (ishr .i64 (rd c_5603.codes_ s5612) i5652) (1 : Int))), some (.int .u32 (wr .u32 (iand .i64 (ishr .i64 (rd c_5603.codes_ s5612) i5652) (1 : Int)))), none]) hS mixed rfl ?_
   intro l w ho hcl hA hst
   refine phq hA hst ho hcl navail nmust 12 [0, 1, 2, 3, 4, 5, 6, 7, 8, 9, 10, 11] rfl rfl rfl rfl rfl (by exact ⟨nR rfl rfl rfl rfl rfl (by exact ovE (mv rfl) rfl), nR rfl rfl rfl rfl rfl (by exact ovE (nck rfl) rfl), nR rfl rfl rfl rfl rfl (by exact ovE (fad rfl Tryd.runUnderlying49 rfl Tryd.sizeOf44 rfl) rfl), nR rfl rfl rfl rfl rfl (by exact ovE (fad rfl Tryd.runUnderlying47 rfl Tryd.sizeOf45 rfl) rfl), nR rfl rfl rfl rfl rfl (by exact ovE (ldb 6 rfl hB5615 rfl rfl Tryd.isAgg45) rfl), nR rfl rfl rfl rfl rfl (by exact ovE (mv rfl) rfl), nR rfl rfl rfl rfl rfl (by exact ovE (ixV rfl rfl Tryd.runUnderlying45 Tryd.sizeOf3 hr5610.wk (fun _ => rfl) rfl hk5656) rfl), nR rfl rfl rfl rfl rfl (by exact ovE (ldV0 rfl hr5610.wk (fun _ => rfl) hk5656 rfl Tryd.isAgg3) rfl), nR rfl rfl rfl rfl rfl (by exact ovE (mv rfl) rfl), nR rfl rfl rfl rfl rfl (by exact ovE (shr rfl rfl hk5658) rfl), nR rfl rfl rfl rfl rfl (by exact ovE (bin rfl rfl rfl) rfl), nR rfl rfl rfl rfl rfl (by exact ovE (cvi rfl Tryd.runUnderlying3 Tryd.runUnderlying53) rfl), trivial⟩) fun D l a w ho hcl hav hpre hm hE hk hA hst => ?_
   have hS := (Ss.mk hE hst).env2 (e' := [(19, ptr b5580 0), (28, .int .u32 (wr .u32 (iand .i64 (ishr .i64 (rd c_5603.codes_ s5612) i5652) (1 : Int))))]) ⟨rfl, rfl, trivial⟩
   refine op_of_nth rfl <| s_call hS rfl Tryd.call23 (bits_Writer_Put_deflate_writer_c hG K (T_deflate_writer.mk (T_bits_Writer.mk (T_bits_place.mk at_5644) bytes5647) w_5579.literals_ w_5579.distances_) (wr .u32 (iand .i64 (ishr .i64 (rd c_5603.codes_ s5612) i5652) (1 : Int))) (1 : Int) b5580 f5650 A5645 c5646 f5648 A5587 c5588 f5589 A5591 c5592 f5593 A5595 c5596 f5597 A5599 c5600 f5601 hB5651 hV5649 hV5590 hV5594 hV5598 hV5602 (hS.st.part 6 [0, 1, 2, 3, 4, 5, 6] (by kernel_rfl)) (wp_bind hM) (fun x5659 at_5660 A5661 c5662 bytes5663 f5664 f5665 w hM h5666 h5667 hst => s_back hS.ev hst.appF rfl fun hS => ?_))
   replace hS : Ss _ _ _ H [f5665, f5664, f5589, f5593, f5597, f5601, f5614] F _ _ := hS
   refine wpList_nil (then_n ?_)
   replace hst := hS.st
   obtain ⟨hcl, hmust, hav2, hA⟩ := dn (vals' := [some (ptr b5580 0), some (ptr b5580 0), some (ptr b5580 0), some (ptr b5613 1), some (.slice A5608 c_5603.codes_.length c5609), some (.int .i64 s5612), some (slp A5608 (Int.toNat s5612 * 1)), some (.int .i64 (rd c_5603.codes_ s5612)), some (.int .i64 i5652), some (.int .i64 (ishr .i64 (rd c_5603.codes_ s5612) i5652)), some (.int .i64 (iand .i64 (ishr .i64 (rd c_5603.codes_ s5612) i5652) (1 : Int))), some (.int .u32 (wr .u32 (iand .i64 (ishr .i64 (rd c_5603.codes_ s5612) i5652) (1 : Int)))), some (.int .i64 x5659)]) 12 [(2, 12), (11, 12), (1, 2), (10, 11), (0, 1), (9, 10), (7, 9), (8, 9), (6, 7), (4, 6), (5, 6), (3, 4)] hA hcl hav hm hpre hk rfl rfl rfl rfl rfl rfl rfl
   clear hm hav
   refine phqE hA hst ho hcl hmust [] rfl rfl rfl trivial fun a w hS => ?_
   replace hS := hS.env2 (e' := [(0, ptr b5580 0), (2, .int .i64 s5612), (4, ptr b5613 0), (6, .int .i64 i5652)]) ⟨rfl, rfl, rfl, rfl, trivial⟩
   refine blk_n (then_n ?_)
   refine wp_region_list <| st1 hS (mv rfl) rfl fun a w hS => st1 hS (bin rfl rfl rfl) rfl fun a w hS => st1x (v := Value.int .i64) (x0 := (w64 (i5652 - (1 : Int)))) hS (asg rfl) rfl fun i5668 a w hz hS => ?_
   have hM := lt_to hz hM; clear hz
   refine wpList_nil <| then_n ?_
   exact hJ5669 _ _ ⟨at_5660, A5661, c5662, bytes5663, f5664, f5665, i5668, hS.to [0, 1, 2, 3, 4, 5, 6] (by kernel_rfl) ⟨rfl, rfl, rfl, rfl, trivial⟩, h5666, h5667, hM⟩
  ·refine wp_exit ?_
   refine then_ex (then_ex (blk_same ?_))
   exact s_end (rs := []) hS rfl rfl (hret at_5644 A5645 c5646 bytes5647 f5648 f5650 w (wp_ok hM) hV5649 hB5651 (hS.st.pick [0, 1, 2, 3, 4, 5] (by kernel_rfl)))

theorem deflate_Dynamic_c {H : Imm} {F : List Frag} {w : World} {R : Ending → World → Prop} {kr : ((List UInt8) × Int) → Prop} {kp : Value → Prop} (hG : Gl H) (K : Nat) (l_1218 : List T_api_Token) (A1219 : Option Addr) (c1220 : Nat) (hr1221 : Rdl H [] F T_api_Token.cells A1219 l_1218) (hc1222 : l_1218.length ≤ c1220)
    (hS : St w H [] F) (hm : (deflate_Dynamic.m K l_1218).wp kr kp)
    (hret : ∀ (x5757 : List UInt8) (x5758 : Int) (w : World), kr (x5757, x5758) → St w H [] F → R (.returned (.tuple ⟨[str x5757, .int .i64 x5758]⟩)) w)
    (hpan : ∀ v w, kp v → St w H [] F → R (.panicked [⟨v, false, false⟩]) w) :
    Calls Tryd.prog 14 ⟨[.slice A1219 l_1218.length c1220]⟩ w R := by
 refine enter Tryd.func14 rfl Tryd.ntmps14 rfl hS fun a w hS => ?_
 have hM := hm; clear hm
 rw [deflate_Dynamic.m] at hM
 refine wp_seq <| wp_region_list <| st1 hS (asg rfl) rfl fun a w hS => st1 hS (asg rfl) rfl fun a w hS => wpList_nil <| then_n <| wp_seq <| wp_seq <| wp_region_list <| st1 hS (mv rfl) rfl fun a w hS => s_call hS rfl Tryd.call21 (deflate_fine_c hG K l_1218 A1219 c1220 (hr1221.app _) hc1222 (hS.st.part 0 [] (by kernel_rfl)) (wp_bind hM) (fun x1223 w hM  hst => s_back hS.ev hst.appF rfl fun hS => ?_))
 replace hS : Ss _ _ _ H [] F _ _ := hS
 refine st1 hS (un rfl rfl) rfl fun a w hS => wpList_nil <| then_n <| s_cond hS rfl hM (fun hb1224 hM => ?_) (fun hb1224 hM => ?_)
 ·refine wp_seq ?_
  refine wp_region_list <| st1 hS (asg rfl) rfl fun a w hS => st1 hS (asg rfl) rfl fun a w hS => wpList_nil <| then_n <| wp_ret <| then_ret ?_
  exact s_ret (rs := [2, 3]) hS rfl rfl (hret ([] : List UInt8) (1 : Int) w (wp_ok hM) (hS.st.pick [] (by kernel_rfl)))
 ·refine wp_skip ?_
  refine then_n <| seq_joinJ (fun a w => ∃ (A1251 : Option Addr) (c1252 : Nat) (literals1253 : (List Int)) (f1254 : Frag) (A1256 : Option Addr) (c1257 : Nat) (distances1258 : (List Int)) (f1259 : Frag), Ss 196 [] [(0, .slice A1219 l_1218.length c1220), (4, .slice A1251 literals1253.length c1252), (5, .slice A1256 distances1258.length c1257)] H [f1254, f1259] F a w ∧ (Vec 3 (ci .i64) 1 A1251 literals1253 c1252 f1254) ∧ (Vec 3 (ci .i64) 1 A1256 distances1258 c1257 f1259) ∧ (deflate_Dynamic.j1 K l_1218 literals1253 distances1258).wp kr kp) (fun J1261 hJ1261 => ?_) ?_
  ·refine draw_begin (vals := [none, none, none, none]) hS mixed rfl ?_
   intro l w ho hcl hA hst
   obtain ⟨hk1225, hM⟩ := wp_chk hM
   obtain ⟨zs1226, hz1227⟩ := nameE (List.replicate (Int.toNat (286 : Int)) (0 : Int))
   replace hM := lt_to hz1227 hM
   obtain ⟨hk1228, hM⟩ := wp_chk hM
   obtain ⟨zs1229, hz1230⟩ := nameE (List.replicate (Int.toNat (30 : Int)) (0 : Int))
   replace hM := lt_to hz1230 hM
   refine phase2 (vals := [none, none, none, none]) 0 1 [] [] rfl rfl rfl rfl rfl trivial (fun D l a w ho hcl hav hpre hm hE hk hA hst => ?_) (fun D l a w ho hcl hav hpre hm hE hk hA hst => ?_) ho hcl navail nmust List.not_mem_nil List.not_mem_nil hA hst
   ·have hS := (Ss.mk hE hst).env2 (e' := []) trivial
    refine op_of_nth rfl <| mkS (g := (ci .i64)) (m := (286 : Int)) (0 : Int) hS rfl rfl (by simp) Tryd.runUnderlying45 X.el3 (fun w => ⟨_, Tryd.zeroValue3 w, rfl⟩) (fun _ => rfl) rfl rfl hk1225 rfl fun zs1235 w A1231 c1232 f1233 hz hV1234 hS => ?_
    rw [← hz1227] at hz; replace hz := hz.symm; subst hz
    refine wpList_nil (then_n ?_)
    replace hst := hS.st
    obtain ⟨hcl, hmust, hav2, hA⟩ := dn (vals' := [some (.slice A1231 zs1226.length c1232), none, some (.slice A1231 zs1226.length c1232), none]) 0 [] hA hcl hav hm hpre hk rfl rfl rfl rfl rfl rfl rfl
    clear hm hav
    refine phq hA hst ho hcl hav2 hmust 1 [2] rfl rfl rfl rfl rfl (by exact ⟨nR rfl rfl rfl rfl rfl (by exact ovE (asg rfl) rfl), trivial⟩) fun D l a w ho hcl hav hpre hm hE hk hA hst => ?_
    have hS := (Ss.mk hE hst).env2 (e' := []) trivial
    refine op_of_nth rfl <| mkS (g := (ci .i64)) (m := (30 : Int)) (0 : Int) hS rfl rfl (by simp) Tryd.runUnderlying45 X.el3 (fun w => ⟨_, Tryd.zeroValue3 w, rfl⟩) (fun _ => rfl) rfl rfl hk1228 rfl fun zs1240 w A1236 c1237 f1238 hz hV1239 hS => ?_
    rw [← hz1230] at hz; replace hz := hz.symm; subst hz
    refine wpList_nil (then_n ?_)
    replace hst := hS.st
    obtain ⟨hcl, hmust, hav2, hA⟩ := dn (vals' := [some (.slice A1231 zs1226.length c1232), some (.slice A1236 zs1229.length c1237), some (.slice A1231 zs1226.length c1232), some (.slice A1236 zs1229.length c1237)]) 1 [] hA hcl hav hm hpre hk rfl rfl rfl rfl rfl rfl rfl
    clear hm hav
    refine phqE hA hst ho hcl hmust [2, 3] rfl rfl rfl (by exact ⟨nR rfl rfl rfl rfl rfl (by exact ovE (asg rfl) rfl), nR rfl rfl rfl rfl rfl (by exact ovE (asg rfl) rfl), trivial⟩) fun a w hS => ?_
    replace hS := hS.env2 (e' := [(0, .slice A1219 l_1218.length c1220), (4, .slice A1231 zs1226.length c1232), (5, .slice A1236 zs1229.length c1237)]) ⟨rfl, rfl, rfl, trivial⟩
    refine then_n ?_
    exact hJ1261 _ _ ⟨A1231, c1232, zs1226, f1233, A1236, c1237, zs1229, f1238, hS.to [1, 0] (by kernel_rfl) ⟨rfl, rfl, rfl, trivial⟩, hV1234, hV1239, hM⟩
   ·have hS := (Ss.mk hE hst).env2 (e' := []) trivial
    refine op_of_nth rfl <| mkS (g := (ci .i64)) (m := (30 : Int)) (0 : Int) hS rfl rfl (by simp) Tryd.runUnderlying45 X.el3 (fun w => ⟨_, Tryd.zeroValue3 w, rfl⟩) (fun _ => rfl) rfl rfl hk1228 rfl fun zs1245 w A1241 c1242 f1243 hz hV1244 hS => ?_
    rw [← hz1230] at hz; replace hz := hz.symm; subst hz
    refine wpList_nil (then_n ?_)
    replace hst := hS.st
    obtain ⟨hcl, hmust, hav2, hA⟩ := dn (vals' := [none, some (.slice A1241 zs1229.length c1242), none, none]) 1 [] hA hcl hav hm hpre hk rfl rfl rfl rfl rfl rfl rfl
    clear hm hav
    refine phq hA hst ho hcl hav2 hmust 0 [] rfl rfl rfl rfl rfl trivial fun D l a w ho hcl hav hpre hm hE hk hA hst => ?_
    have hS := (Ss.mk hE hst).env2 (e' := []) trivial
    refine op_of_nth rfl <| mkS (g := (ci .i64)) (m := (286 : Int)) (0 : Int) hS rfl rfl (by simp) Tryd.runUnderlying45 X.el3 (fun w => ⟨_, Tryd.zeroValue3 w, rfl⟩) (fun _ => rfl) rfl rfl hk1225 rfl fun zs1250 w A1246 c1247 f1248 hz hV1249 hS => ?_
    rw [← hz1227] at hz; replace hz := hz.symm; subst hz
    refine wpList_nil (then_n ?_)
    replace hst := hS.st
    obtain ⟨hcl, hmust, hav2, hA⟩ := dn (vals' := [some (.slice A1246 zs1226.length c1247), some (.slice A1241 zs1229.length c1242), some (.slice A1246 zs1226.length c1247), some (.slice A1241 zs1229.length c1242)]) 0 [] hA hcl hav hm hpre hk rfl rfl rfl rfl rfl rfl rfl
    clear hm hav
    refine phqE hA hst ho hcl hmust [2, 3] rfl rfl rfl (by exact ⟨nR rfl rfl rfl rfl rfl (by exact ovE (asg rfl) rfl), nR rfl rfl rfl rfl rfl (by exact ovE (asg rfl) rfl), trivial⟩) fun a w hS => ?_
    replace hS := hS.env2 (e' := [(0, .slice A1219 l_1218.length c1220), (4, .slice A1246 zs1226.length c1247), (5, .slice A1241 zs1229.length c1242)]) ⟨rfl, rfl, rfl, trivial⟩
    refine then_n ?_
    exact hJ1261 _ _ ⟨A1246, c1247, zs1226, f1248, A1241, c1242, zs1229, f1243, hS.to [0, 1] (by kernel_rfl) ⟨rfl, rfl, rfl, trivial⟩, hV1249, hV1244, hM⟩
  ·intro a w hI
   obtain ⟨A1251, c1252, literals1253, f1254, A1256, c1257, distances1258, f1259, hS, hV1255, hV1260, hM⟩ := hI
   rw [deflate_Dynamic.j1] at hM
   refine wp_seq <| wp_region_list <| st1 hS (mv rfl) rfl fun a w hS => ?_
   obtain ⟨hk1262, hM⟩ := wp_chk hM
   refine st1 hS (ixV rfl rfl Tryd.runUnderlying45 Tryd.sizeOf3 (hV1255.rd (i := 0) rfl) (fun _ => rfl) rfl hk1262) rfl fun a w hS => st1 hS (ldV0 rfl (hV1255.rd (i := 0) rfl) (fun _ => rfl) hk1262 rfl Tryd.isAgg3) rfl fun a w hS => st1 hS (bin rfl rfl rfl) rfl fun a w hS => st1 hS (ixV rfl rfl Tryd.runUnderlying45 Tryd.sizeOf3 (hV1255.rd (i := 0) rfl) (fun _ => rfl) rfl hk1262) rfl fun a w hS => stV (i := (256 : Int)) (sz := 1) 0 0 ((w64 ((rd literals1253 (256 : Int)) + (1 : Int)))) hS rfl rfl hV1255 rfl Tryd.sizeOf3 (one_t3 (w64 ((rd literals1253 (256 : Int)) + (1 : Int)))) (fun _ => rfl) hk1262 rfl rfl fun zs1265 w f1263 hz hz1266 hV1264 hS => ?_
   have hM := lt_to hz hM; clear hz
   replace hS := hS.re 4 (u := .slice A1251 literals1253.length c1252) (v := .slice A1251 zs1265.length c1252) rfl (by rw [hz1266])
   replace hS := hS.re 28 (u := .slice A1251 literals1253.length c1252) (v := .slice A1251 zs1265.length c1252) rfl (by rw [hz1266])
   refine wpList_nil <| then_n <| seq_joinJ (fun a w => ∃ (literals1343 : (List Int)) (f1344 : Frag) (distances1346 : (List Int)) (f1347 : Frag), Ss 196 [] [(0, .slice A1219 l_1218.length c1220), (4, .slice A1251 literals1343.length c1252), (5, .slice A1256 distances1346.length c1257)] H [f1344, f1347] F a w ∧ (Vec 3 (ci .i64) 1 A1251 literals1343 c1252 f1344) ∧ (Vec 3 (ci .i64) 1 A1256 distances1346 c1257 f1347) ∧ (deflate_Dynamic.j3 K l_1218 literals1343 distances1346).wp kr kp) (fun J1349 hJ1349 => ?_) ?_
   ·refine wp_seq ?_
    refine wp_region_list <| st1 hS (mv rfl) rfl fun a w hS => st1 hS (lenV rfl Tryd.runUnderlying25) rfl fun a w hS => st1 hS (mv rfl) rfl fun a w hS => wpList_nil <| then_n <| wp_block <| s_loopJ (fun k1312 a w => ∃ (literals1305 : (List Int)) (f1306 : Frag) (distances1308 : (List Int)) (f1309 : Frag) (v1311 : Int), Ss 196 [] [(0, .slice A1219 l_1218.length c1220), (4, .slice A1251 literals1305.length c1252), (5, .slice A1256 distances1308.length c1257), (33, .slice A1219 l_1218.length c1220), (34, .int .i64 (l_1218.length : Int)), (35, .int .i64 v1311)] H [f1306, f1309] F a w ∧ (Vec 3 (ci .i64) 1 A1251 literals1305 c1252 f1306) ∧ (Vec 3 (ci .i64) 1 A1256 distances1308 c1257 f1309) ∧ (deflate_Dynamic.l2 K l_1218 k1312 literals1305 distances1308 v1311).wp kr kp) K ?_ ?_ ?_
    ·exact ⟨zs1265, f1263, distances1258, f1259, (0 : Int), hS.to [0, 1] (by kernel_rfl) ⟨rfl, rfl, rfl, rfl, rfl, rfl, trivial⟩, hV1264, hV1260, hM⟩
    ·intro a w hI; obtain ⟨_, _, _, _, _, _, _, _, hM⟩ := hI; exact wp_fail hM
    ·intro k1312 a w hI J1342 hJ1342
     obtain ⟨literals1305, f1306, distances1308, f1309, v1311, hS, hV1307, hV1310, hM⟩ := hI
     rw [deflate_Dynamic.l2] at hM
     refine wp_seq <| wp_region_list <| st1 hS (bin rfl rfl rfl) rfl fun a w hS => wpList_nil <| then_n <| wp_seq <| s_cond hS rfl hM (fun hb1313 hM => ?_) (fun hb1313 hM => ?_)
     ·refine wp_skip ?_
      refine then_n <| wp_seq <| wp_block <| wp_seq <| wp_region_list ?_
      obtain ⟨hk1314, hM⟩ := wp_chk hM
      refine st1 hS (ixV rfl rfl Tryd.runUnderlying25 Tryd.sizeOf32 hr1221.wk (fun _ => rfl) rfl hk1314) rfl fun a w hS => st1 hS (ldVA rfl hr1221.wk (fun _ => rfl) hk1314 Tryd.isAgg32 Tryd.sizeOf32 rfl) rfl fun a w hS => alc ([.int .u8 (0 : Int), .int .i64 (0 : Int), .int .i64 (0 : Int)]) hS Tryd.zeroValue32 rfl rfl fun w b1315 f1316 hB1317 hS => stB 0 ([.int .u8 ((rd l_1218 v1311).Lit_), .int .i64 ((rd l_1218 v1311).Len_), .int .i64 ((rd l_1218 v1311).Dist_)]) ([.int .u8 ((rd l_1218 v1311).Lit_), .int .i64 ((rd l_1218 v1311).Len_), .int .i64 ((rd l_1218 v1311).Dist_)]) hS rfl rfl hB1317 rfl rfl Tryd.sizeOf32 (by simp [Value.oneCell']) (Nat.le_of_ble_eq_true rfl) rfl fun w f1318 hB1319 hS => wpList_nil <| then_n <| wp_seq <| wp_region_list <| st1 hS (fad rfl Tryd.runUnderlying32 rfl Tryd.sizeOf3 rfl) rfl fun a w hS => st1 hS (ldb 0 rfl hB1319 rfl rfl Tryd.isAgg3) rfl fun a w hS => st1 hS (bin rfl rfl rfl) rfl fun a w hS => wpList_nil <| then_n <| s_cond hS rfl hM (fun hb1320 hM => ?_) (fun hb1320 hM => ?_)
      ·refine wp_region_list ?_
       refine st1 hS (mv rfl) rfl fun a w hS => st1 hS (fad rfl Tryd.runUnderlying32 rfl Tryd.sizeOf5 rfl) rfl fun a w hS => st1 hS (ldb 0 rfl hB1319 rfl rfl Tryd.isAgg5) rfl fun a w hS => ?_
       obtain ⟨hk1321, hM⟩ := wp_chk hM
       refine st1 hS (ixV rfl rfl Tryd.runUnderlying45 Tryd.sizeOf3 (hV1307.rd (i := 1) rfl) (fun _ => rfl) rfl hk1321) rfl fun a w hS => st1 hS (ldV0 rfl (hV1307.rd (i := 1) rfl) (fun _ => rfl) hk1321 rfl Tryd.isAgg3) rfl fun a w hS => st1 hS (bin rfl rfl rfl) rfl fun a w hS => st1 hS (ixV rfl rfl Tryd.runUnderlying45 Tryd.sizeOf3 (hV1307.rd (i := 1) rfl) (fun _ => rfl) rfl hk1321) rfl fun a w hS => stV (i := (rd l_1218 v1311).Lit_) (sz := 1) 1 0 ((w64 ((rd literals1305 (rd l_1218 v1311).Lit_) + (1 : Int)))) hS rfl rfl hV1307 rfl Tryd.sizeOf3 (one_t3 (w64 ((rd literals1305 (rd l_1218 v1311).Lit_) + (1 : Int)))) (fun _ => rfl) hk1321 rfl rfl fun zs1324 w f1322 hz hz1325 hV1323 hS => ?_
       have hM := lt_to hz hM; clear hz
       replace hS := hS.re 4 (u := .slice A1251 literals1305.length c1252) (v := .slice A1251 zs1324.length c1252) rfl (by rw [hz1325])
       replace hS := hS.re 42 (u := .slice A1251 literals1305.length c1252) (v := .slice A1251 zs1324.length c1252) rfl (by rw [hz1325])
       refine wpList_nil <| blk_n (then_n ?_)
       refine wp_region_list <| st1 hS (bin rfl rfl rfl) rfl fun a w hS => st1 hS (mv rfl) rfl fun a w hS => wpList_nil <| then_n ?_
       exact hJ1342 _ _ ⟨zs1324, f1322, distances1308, f1309, (w64 (v1311 + (1 : Int))), hS.to [1, 2] (by kernel_rfl) ⟨rfl, rfl, rfl, rfl, rfl, rfl, trivial⟩, hV1323, hV1310, hM⟩
      ·refine wp_seq ?_
       refine wp_region_list <| st1 hS (mv rfl) rfl fun a w hS => st1 hS (fad rfl Tryd.runUnderlying32 rfl Tryd.sizeOf3 rfl) rfl fun a w hS => st1 hS (ldb 0 rfl hB1319 rfl rfl Tryd.isAgg3) rfl fun a w hS => s_call hS rfl Tryd.call35 (deflate_length_c hG K ((rd l_1218 v1311).Len_) (hS.st.part 0 [0, 1, 2] (by kernel_rfl)) (wp_bind hM) (fun symbol1326 bits1327 more1328 w hM  hst => s_back hS.ev hst.appF rfl fun hS => ?_))
       replace hS : Ss _ _ _ H [f1318, f1306, f1309] F _ _ := hS
       refine st1 hS (fld rfl Tryd.runUnderlying68 rfl Tryd.isAgg3 rfl) rfl fun a w hS => ?_
       obtain ⟨hk1329, hM⟩ := wp_chk hM
       refine st1 hS (ixV rfl rfl Tryd.runUnderlying45 Tryd.sizeOf3 (hV1307.rd (i := 1) rfl) (fun _ => rfl) rfl hk1329) rfl fun a w hS => st1 hS (ldV0 rfl (hV1307.rd (i := 1) rfl) (fun _ => rfl) hk1329 rfl Tryd.isAgg3) rfl fun a w hS => st1 hS (bin rfl rfl rfl) rfl fun a w hS => st1 hS (ixV rfl rfl Tryd.runUnderlying45 Tryd.sizeOf3 (hV1307.rd (i := 1) rfl) (fun _ => rfl) rfl hk1329) rfl fun a w hS => stV (i := symbol1326) (sz := 1) 1 0 ((w64 ((rd literals1305 symbol1326) + (1 : Int)))) hS rfl rfl hV1307 rfl Tryd.sizeOf3 (one_t3 (w64 ((rd literals1305 symbol1326) + (1 : Int)))) (fun _ => rfl) hk1329 rfl rfl fun zs1332 w f1330 hz hz1333 hV1331 hS => ?_
       have hM := lt_to hz hM; clear hz
       replace hS := hS.re 4 (u := .slice A1251 literals1305.length c1252) (v := .slice A1251 zs1332.length c1252) rfl (by rw [hz1333])
       replace hS := hS.re 49 (u := .slice A1251 literals1305.length c1252) (v := .slice A1251 zs1332.length c1252) rfl (by rw [hz1333])
       refine wpList_nil <| then_n <| wp_region_list <| st1 hS (mv rfl) rfl fun a w hS => st1 hS (fad rfl Tryd.runUnderlying32 rfl Tryd.sizeOf3 rfl) rfl fun a w hS => st1 hS (ldb 0 rfl hB1319 rfl rfl Tryd.isAgg3) rfl fun a w hS => s_call hS rfl Tryd.call36 (deflate_distance_c hG K ((rd l_1218 v1311).Dist_) (hS.st.part 0 [0, 1, 2] (by kernel_rfl)) (wp_bind hM) (fun symbol1334 bits1335 more1336 w hM  hst => s_back hS.ev hst.appF rfl fun hS => ?_))
       replace hS : Ss _ _ _ H [f1318, f1330, f1309] F _ _ := hS
       refine st1 hS (fld rfl Tryd.runUnderlying68 rfl Tryd.isAgg3 rfl) rfl fun a w hS => ?_
       obtain ⟨hk1337, hM⟩ := wp_chk hM
       refine st1 hS (ixV rfl rfl Tryd.runUnderlying45 Tryd.sizeOf3 (hV1310.rd (i := 2) rfl) (fun _ => rfl) rfl hk1337) rfl fun a w hS => st1 hS (ldV0 rfl (hV1310.rd (i := 2) rfl) (fun _ => rfl) hk1337 rfl Tryd.isAgg3) rfl fun a w hS => st1 hS (bin rfl rfl rfl) rfl fun a w hS => st1 hS (ixV rfl rfl Tryd.runUnderlying45 Tryd.sizeOf3 (hV1310.rd (i := 2) rfl) (fun _ => rfl) rfl hk1337) rfl fun a w hS => stV (i := symbol1334) (sz := 1) 2 0 ((w64 ((rd distances1308 symbol1334) + (1 : Int)))) hS rfl rfl hV1310 rfl Tryd.sizeOf3 (one_t3 (w64 ((rd distances1308 symbol1334) + (1 : Int)))) (fun _ => rfl) hk1337 rfl rfl fun zs1340 w f1338 hz hz1341 hV1339 hS => ?_
       have hM := lt_to hz hM; clear hz
       replace hS := hS.re 5 (u := .slice A1256 distances1308.length c1257) (v := .slice A1256 zs1340.length c1257) rfl (by rw [hz1341])
       replace hS := hS.re 58 (u := .slice A1256 distances1308.length c1257) (v := .slice A1256 zs1340.length c1257) rfl (by rw [hz1341])
       refine wpList_nil <| blk_n (then_n ?_)
       refine wp_region_list <| st1 hS (bin rfl rfl rfl) rfl fun a w hS => st1 hS (mv rfl) rfl fun a w hS => wpList_nil <| then_n ?_
       exact hJ1342 _ _ ⟨zs1332, f1330, zs1340, f1338, (w64 (v1311 + (1 : Int))), hS.to [1, 2] (by kernel_rfl) ⟨rfl, rfl, rfl, rfl, rfl, rfl, trivial⟩, hV1331, hV1339, hM⟩
     ·refine wp_exit ?_
      refine then_ex (then_ex (blk_same (then_n ?_)))
      exact hJ1349 _ _ ⟨literals1305, f1306, distances1308, f1309, hS.to [0, 1] (by kernel_rfl) ⟨rfl, rfl, rfl, trivial⟩, hV1307, hV1310, hM⟩
   ·intro a w hI
    obtain ⟨literals1343, f1344, distances1346, f1347, hS, hV1345, hV1348, hM⟩ := hI
    rw [deflate_Dynamic.j3] at hM
    refine wp_seq <| wp_region_list <| st1 hS (mv rfl) rfl fun a w hS => s_call hS rfl Tryd.call38 (deflate_own_fd7d_c hG K literals1343 A1251 c1252 f1344 hV1345 (hS.st.part 1 [0, 1] (by kernel_rfl)) (wp_bind hM) (fun A5160 c5161 x5162 f5163 often5164 f5165 w hM h5166 h5167 h5168 hst => s_back hS.ev hst.appF rfl fun hS => ?_) (fun v w hk hst => s_pan (then_pan (⟨hS.ev.defs, hpan _ _ hk hst.appF.frame⟩))))
    replace hS : Ss _ _ _ H [f5163, f5165, f1347] F _ _ := hS
    replace hS := hS.re 4 (u := .slice A1251 literals1343.length c1252) (v := .slice A1251 often5164.length c1252) rfl (by rw [h5168])
    replace hS := hS.re 68 (u := .slice A1251 literals1343.length c1252) (v := .slice A1251 often5164.length c1252) rfl (by rw [h5168])
    refine s_call hS rfl Tryd.call37 (deflate_coded_c hG K x5162 A5160 c5161 (h5166.rdF (i := 0) rfl) (h5166.cap (fun _ => rfl) rfl) (hS.st.part 0 [0, 1, 2] (by kernel_rfl)) (wp_bind hM) (fun A5169 c5170 codes5171 f5172 w hM h5173 hst => s_back hS.ev hst.appF rfl fun hS => ?_))
    replace hS : Ss _ _ _ H [f5172, f5163, f5165, f1347] F _ _ := hS
    refine st1 hS (mv rfl) rfl fun a w hS => s_call hS rfl Tryd.call38 (deflate_own_fd7d_c hG K distances1346 A1256 c1257 f1347 hV1348 (hS.st.part 1 [3, 0, 1, 2] (by kernel_rfl)) (wp_bind hM) (fun A5174 c5175 x5176 f5177 often5178 f5179 w hM h5180 h5181 h5182 hst => s_back hS.ev hst.appF rfl fun hS => ?_) (fun v w hk hst => s_pan (then_pan (⟨hS.ev.defs, hpan _ _ hk hst.appF.frame⟩))))
    replace hS : Ss _ _ _ H [f5177, f5179, f5172, f5163, f5165] F _ _ := hS
    replace hS := hS.re 5 (u := .slice A1256 distances1346.length c1257) (v := .slice A1256 often5178.length c1257) rfl (by rw [h5182])
    replace hS := hS.re 71 (u := .slice A1256 distances1346.length c1257) (v := .slice A1256 often5178.length c1257) rfl (by rw [h5182])
    refine s_call hS rfl Tryd.call37 (deflate_coded_c hG K x5176 A5174 c5175 (h5180.rdF (i := 0) rfl) (h5180.cap (fun _ => rfl) rfl) (hS.st.part 0 [0, 1, 2, 3, 4] (by kernel_rfl)) (wp_bind hM) (fun A5183 c5184 codes5185 f5186 w hM h5187 hst => s_back hS.ev hst.appF rfl fun hS => ?_))
    replace hS : Ss _ _ _ H [f5186, f5177, f5179, f5172, f5163, f5165] F _ _ := hS
    refine st1 hS (bld ([.int .i64 (0 : Int), .slice none 0 0, .slice A5160 x5162.length c5161, .slice A5169 codes5171.length c5170, .slice A5174 x5176.length c5175, .slice A5183 codes5185.length c5184]) [(0, 2), (2, 2), (4, 2)] Tryd.zeroValue49 Tryd.runUnderlying49 (by intro w; simp [Tryd.sizeOf44, Tryd.sizeOf47]) rfl rfl) rfl fun a w hS => bx ([.int .i64 (0 : Int), .slice none 0 0, .slice A5160 x5162.length c5161, .slice A5169 codes5171.length c5170, .slice A5174 x5176.length c5175, .slice A5183 codes5185.length c5184]) hS rfl rfl rfl fun w b5188 f5189 hB5190 hS => ?_
    obtain ⟨f5191, hV5192, hS⟩ := hS.nilV 5 (ci .u8) 1
    refine st1 hS (asg rfl) rfl fun a w hS => wpList_nil <| then_n <| wp_seq <| draw_begin (vals := [none, some (ptr b5188 0), some (ptr b5188 0), some (ptr b5188 2), some (ptr b5188 2), some (.slice A5160 x5162.length c5161), none, some (ptr b5188 0), some (ptr b5188 0), some (ptr b5188 4), some (ptr b5188 4), some (.slice A5174 x5176.length c5175), none, none, none]) hS mixed rfl ?_
    intro l w ho hcl hA hst
    refine phq hA hst ho hcl navail nmust 0 [1, 2, 3, 4, 5, 7, 8, 9, 10, 11] rfl rfl rfl rfl rfl (by exact ⟨nR rfl rfl rfl rfl rfl (by exact ovE (mv rfl) rfl), nR rfl rfl rfl rfl rfl (by exact ovE (nck rfl) rfl), nR rfl rfl rfl rfl rfl (by exact ovE (fad rfl Tryd.runUnderlying49 rfl Tryd.sizeOf47 rfl) rfl), nR rfl rfl rfl rfl rfl (by exact ovE (fad rfl Tryd.runUnderlying47 rfl Tryd.sizeOf45 rfl) rfl), nR rfl rfl rfl rfl rfl (by exact ovE (ldb 1 rfl hB5190 rfl rfl Tryd.isAgg45) rfl), nR rfl rfl rfl rfl rfl (by exact ovE (mv rfl) rfl), nR rfl rfl rfl rfl rfl (by exact ovE (nck rfl) rfl), nR rfl rfl rfl rfl rfl (by exact ovE (fad rfl Tryd.runUnderlying49 rfl Tryd.sizeOf47 rfl) rfl), nR rfl rfl rfl rfl rfl (by exact ovE (fad rfl Tryd.runUnderlying47 rfl Tryd.sizeOf45 rfl) rfl), nR rfl rfl rfl rfl rfl (by exact ovE (ldb 1 rfl hB5190 rfl rfl Tryd.isAgg45) rfl), trivial⟩) fun D l a w ho hcl hav hpre hm hE hk hA hst => ?_
    have hS := (Ss.mk hE hst).env2 (e' := []) trivial
    refine op_of_nth rfl <| bsl (g := (ci .i64)) ([] : List Int) [] hS Tryd.runUnderlying45 Tryd.sizeOf3 X.el3 rfl rfl rfl (by simp [Value.cells]) rfl rfl rfl rfl rfl fun w A5193 c5194 f5195 hV5196 hS => wpList_nil (then_n ?_)
    replace hst := hS.st
    obtain ⟨hcl, hmust, hav2, hA⟩ := dn (vals' := [some (.slice A5193 ([] : List Int).length c5194), some (ptr b5188 0), some (ptr b5188 0), some (ptr b5188 2), some (ptr b5188 2), some (.slice A5160 x5162.length c5161), none, some (ptr b5188 0), some (ptr b5188 0), some (ptr b5188 4), some (ptr b5188 4), some (.slice A5174 x5176.length c5175), none, none, none]) 0 [] hA hcl hav hm hpre hk rfl rfl rfl rfl rfl rfl rfl
    clear hm hav
    refine phq hA hst ho hcl hav2 hmust 6 [1, 2, 3, 4, 5, 7, 8, 9, 10, 11] rfl rfl rfl rfl rfl (by exact ⟨nR rfl rfl rfl rfl rfl (by exact ovE (mv rfl) rfl), nR rfl rfl rfl rfl rfl (by exact ovE (nck rfl) rfl), nR rfl rfl rfl rfl rfl (by exact ovE (fad rfl Tryd.runUnderlying49 rfl Tryd.sizeOf47 rfl) rfl), nR rfl rfl rfl rfl rfl (by exact ovE (fad rfl Tryd.runUnderlying47 rfl Tryd.sizeOf45 rfl) rfl), nR rfl rfl rfl rfl rfl (by exact ovE (ldb 2 rfl hB5190 rfl rfl Tryd.isAgg45) rfl), nR rfl rfl rfl rfl rfl (by exact ovE (mv rfl) rfl), nR rfl rfl rfl rfl rfl (by exact ovE (nck rfl) rfl), nR rfl rfl rfl rfl rfl (by exact ovE (fad rfl Tryd.runUnderlying49 rfl Tryd.sizeOf47 rfl) rfl), nR rfl rfl rfl rfl rfl (by exact ovE (fad rfl Tryd.runUnderlying47 rfl Tryd.sizeOf45 rfl) rfl), nR rfl rfl rfl rfl rfl (by exact ovE (ldb 2 rfl hB5190 rfl rfl Tryd.isAgg45) rfl), trivial⟩) fun D l a w ho hcl hav hpre hm hE hk hA hst => ?_
    have hS := (Ss.mk hE hst).env2 (e' := [(76, .slice A5193 ([] : List Int).length c5194), (81, .slice A5160 x5162.length c5161)]) ⟨rfl, rfl, trivial⟩
    refine op_of_nth rfl ?_
    obtain ⟨hk5197, hM⟩ := wp_chk hM
    refine apV (ys := x5162) 0 hS rfl rfl hV5196 rfl (h5166.rd (i := 7) rfl) Tryd.runUnderlying45 Tryd.runUnderlying45 X.el3 (fun _ => rfl) rfl one_t3 hk5197 rfl fun zs5202 w A5198 c5199 f5200 hz hV5201 hS => ?_
    have hM := lt_to hz hM; clear hz
    refine wpList_nil (then_n ?_)
    replace hst := hS.st
    obtain ⟨hcl, hmust, hav2, hA⟩ := dn (vals' := [some (.slice A5193 ([] : List Int).length c5194), some (ptr b5188 0), some (ptr b5188 0), some (ptr b5188 2), some (ptr b5188 2), some (.slice A5160 x5162.length c5161), some (.slice A5198 zs5202.length c5199), some (ptr b5188 0), some (ptr b5188 0), some (ptr b5188 4), some (ptr b5188 4), some (.slice A5174 x5176.length c5175), none, none, none]) 6 [(0, 6), (5, 6), (4, 5), (3, 4), (2, 3), (1, 2)] hA hcl hav hm hpre hk rfl rfl rfl rfl rfl rfl rfl
    clear hm hav
    refine phq hA hst ho hcl hav2 hmust 12 [7, 8, 9, 10, 11] rfl rfl rfl rfl rfl (by exact ⟨nR rfl rfl rfl rfl rfl (by exact ovE (mv rfl) rfl), nR rfl rfl rfl rfl rfl (by exact ovE (nck rfl) rfl), nR rfl rfl rfl rfl rfl (by exact ovE (fad rfl Tryd.runUnderlying49 rfl Tryd.sizeOf47 rfl) rfl), nR rfl rfl rfl rfl rfl (by exact ovE (fad rfl Tryd.runUnderlying47 rfl Tryd.sizeOf45 rfl) rfl), nR rfl rfl rfl rfl rfl (by exact ovE (ldb 2 rfl hB5190 rfl rfl Tryd.isAgg45) rfl), trivial⟩) fun D l a w ho hcl hav hpre hm hE hk hA hst => ?_
    have hS := (Ss.mk hE hst).env2 (e' := [(82, .slice A5198 zs5202.length c5199), (87, .slice A5174 x5176.length c5175)]) ⟨rfl, rfl, trivial⟩
    refine op_of_nth rfl ?_
    obtain ⟨hk5203, hM⟩ := wp_chk hM
    refine apV (ys := x5176) 0 hS rfl rfl hV5201 rfl (h5180.rd (i := 4) rfl) Tryd.runUnderlying45 Tryd.runUnderlying45 X.el3 (fun _ => rfl) rfl one_t3 hk5203 rfl fun zs5208 w A5204 c5205 f5206 hz hV5207 hS => ?_
    have hM := lt_to hz hM; clear hz
    refine wpList_nil (then_n ?_)
    replace hst := hS.st
    obtain ⟨hcl, hmust, hav2, hA⟩ := dn (vals' := [some (.slice A5193 ([] : List Int).length c5194), some (ptr b5188 0), some (ptr b5188 0), some (ptr b5188 2), some (ptr b5188 2), some (.slice A5160 x5162.length c5161), some (.slice A5198 zs5202.length c5199), some (ptr b5188 0), some (ptr b5188 0), some (ptr b5188 4), some (ptr b5188 4), some (.slice A5174 x5176.length c5175), some (.slice A5204 zs5208.length c5205), none, none]) 12 [(6, 12), (11, 12), (0, 6), (5, 6), (10, 11), (4, 5), (9, 10), (3, 4), (8, 9), (2, 3), (7, 8), (1, 2)] hA hcl hav hm hpre hk rfl rfl rfl rfl rfl rfl rfl
    clear hm hav
    refine phq hA hst ho hcl hav2 hmust 13 [] rfl rfl rfl rfl rfl trivial fun D l a w ho hcl hav hpre hm hE hk hA hst => ?_
    have hS := (Ss.mk hE hst).env2 (e' := [(88, .slice A5204 zs5208.length c5205)]) ⟨rfl, trivial⟩
    refine op_of_nth rfl <| s_call hS rfl Tryd.call39 (deflate_packed_c hG K zs5208 A5204 c5205 (hV5207.rdF (i := 0) rfl) (hV5207.cap (fun _ => rfl) rfl) (hS.st.part 0 [0, 1, 2, 3, 4, 5, 6, 7, 8] (by kernel_rfl)) (wp_bind hM) (fun A5375 c5376 x5377 f5378 w hM h5379 hst => s_back hS.ev hst.appF rfl fun hS => ?_))
    replace hS : Ss _ _ _ H [f5378, f5206, f5191, f5189, f5186, f5177, f5179, f5172, f5163, f5165] F _ _ := hS
    refine wpList_nil (then_n ?_)
    replace hst := hS.st
    obtain ⟨hcl, hmust, hav2, hA⟩ := dn (vals' := [some (.slice A5193 ([] : List Int).length c5194), some (ptr b5188 0), some (ptr b5188 0), some (ptr b5188 2), some (ptr b5188 2), some (.slice A5160 x5162.length c5161), some (.slice A5198 zs5202.length c5199), some (ptr b5188 0), some (ptr b5188 0), some (ptr b5188 4), some (ptr b5188 4), some (.slice A5174 x5176.length c5175), some (.slice A5204 zs5208.length c5205), some (.slice A5375 x5377.length c5376), some (.slice A5375 x5377.length c5376)]) 13 [(12, 13), (6, 12), (11, 12), (0, 6), (5, 6), (10, 11), (4, 5), (9, 10), (3, 4), (8, 9), (2, 3), (7, 8), (1, 2)] hA hcl hav hm hpre hk rfl rfl rfl rfl rfl rfl rfl
    clear hm hav
    refine phqE hA hst ho hcl hmust [14] rfl rfl rfl (by exact ⟨nR rfl rfl rfl rfl rfl (by exact ovE (asg rfl) rfl), trivial⟩) fun a w hS => ?_
    replace hS := hS.env2 (e' := [(0, .slice A1219 l_1218.length c1220), (8, ptr b5188 0), (9, .slice A5375 x5377.length c5376)]) ⟨rfl, rfl, rfl, trivial⟩
    refine then_n <| wp_seq <| wp_region_list ?_
    obtain ⟨hk5380, hM⟩ := wp_chk hM
    refine mkS (g := (ci .i64)) (m := (19 : Int)) (0 : Int) hS rfl rfl (by simp) Tryd.runUnderlying45 X.el3 (fun w => ⟨_, Tryd.zeroValue3 w, rfl⟩) (fun _ => rfl) rfl rfl hk5380 rfl fun zs5385 w A5381 c5382 f5383 hz hV5384 hS => ?_
    have hM := lt_to hz hM; clear hz
    refine st1 hS (asg rfl) rfl fun a w hS => wpList_nil <| then_n <| seq_joinJ (fun a w => ∃ (often5422 : (List Int)) (f5423 : Frag), Ss 196 [] [(0, .slice A1219 l_1218.length c1220), (8, ptr b5188 0), (9, .slice A5375 x5377.length c5376), (10, .slice A5381 often5422.length c5382)] H [f5189, f5191, f5163, f5172, f5177, f5186, f5378, f5423] F a w ∧ (Vec 3 (ci .i64) 1 A5381 often5422 c5382 f5423) ∧ (deflate_Dynamic.j5 K l_1218 x5162 codes5171 x5176 codes5185 x5377 often5422).wp kr kp) (fun J5425 hJ5425 => ?_) ?_
    ·refine wp_seq ?_
     refine wp_region_list <| st1 hS (mv rfl) rfl fun a w hS => st1 hS (lenV rfl Tryd.runUnderlying72) rfl fun a w hS => st1 hS (mv rfl) rfl fun a w hS => wpList_nil <| then_n <| wp_block <| s_loopJ (fun k5408 a w => ∃ (often5404 : (List Int)) (f5405 : Frag) (v5407 : Int), Ss 196 [] [(0, .slice A1219 l_1218.length c1220), (8, ptr b5188 0), (9, .slice A5375 x5377.length c5376), (10, .slice A5381 often5404.length c5382), (91, .slice A5375 x5377.length c5376), (92, .int .i64 (x5377.length : Int)), (93, .int .i64 v5407)] H [f5189, f5191, f5163, f5172, f5177, f5186, f5378, f5405] F a w ∧ (Vec 3 (ci .i64) 1 A5381 often5404 c5382 f5405) ∧ (deflate_Dynamic.l4 K l_1218 x5162 codes5171 x5176 codes5185 x5377 k5408 often5404 v5407).wp kr kp) K ?_ ?_ ?_
     ·exact ⟨zs5385, f5383, (0 : Int), hS.to [4, 3, 9, 8, 6, 5, 1, 0] (by kernel_rfl) ⟨rfl, rfl, rfl, rfl, rfl, rfl, rfl, trivial⟩, hV5384, hM⟩
     ·intro a w hI; obtain ⟨_, _, _, _, _, hM⟩ := hI; exact wp_fail hM
     ·intro k5408 a w hI J5421 hJ5421
      obtain ⟨often5404, f5405, v5407, hS, hV5406, hM⟩ := hI
      rw [deflate_Dynamic.l4] at hM
      refine wp_seq <| wp_region_list <| st1 hS (bin rfl rfl rfl) rfl fun a w hS => wpList_nil <| then_n <| wp_seq <| s_cond hS rfl hM (fun hb5409 hM => ?_) (fun hb5409 hM => ?_)
      ·refine wp_skip ?_
       refine then_n <| wp_seq <| wp_block <| wp_seq <| wp_region_list ?_
       obtain ⟨hk5410, hM⟩ := wp_chk hM
       refine st1 hS (ixV rfl rfl Tryd.runUnderlying72 Tryd.sizeOf75 (h5379.rd (i := 6) rfl) (fun _ => rfl) rfl hk5410) rfl fun a w hS => st1 hS (ldVA rfl (h5379.rd (i := 6) rfl) (fun _ => rfl) hk5410 Tryd.isAgg75 Tryd.sizeOf75 rfl) rfl fun a w hS => alc ([.int .i64 (0 : Int), .int .i64 (0 : Int), .int .i64 (0 : Int)]) hS Tryd.zeroValue75 rfl rfl fun w b5411 f5412 hB5413 hS => stB 0 ([.int .i64 ((rd x5377 v5407).symbol_), .int .i64 ((rd x5377 v5407).more_), .int .i64 ((rd x5377 v5407).bits_)]) ([.int .i64 ((rd x5377 v5407).symbol_), .int .i64 ((rd x5377 v5407).more_), .int .i64 ((rd x5377 v5407).bits_)]) hS rfl rfl hB5413 rfl rfl Tryd.sizeOf75 (by simp [Value.oneCell']) (Nat.le_of_ble_eq_true rfl) rfl fun w f5414 hB5415 hS => wpList_nil <| then_n <| wp_region_list <| st1 hS (mv rfl) rfl fun a w hS => st1 hS (fad rfl Tryd.runUnderlying75 rfl Tryd.sizeOf3 rfl) rfl fun a w hS => st1 hS (ldb 0 rfl hB5415 rfl rfl Tryd.isAgg3) rfl fun a w hS => ?_
       obtain ⟨hk5416, hM⟩ := wp_chk hM
       refine st1 hS (ixV rfl rfl Tryd.runUnderlying45 Tryd.sizeOf3 (hV5406.rd (i := 8) rfl) (fun _ => rfl) rfl hk5416) rfl fun a w hS => st1 hS (ldV0 rfl (hV5406.rd (i := 8) rfl) (fun _ => rfl) hk5416 rfl Tryd.isAgg3) rfl fun a w hS => st1 hS (bin rfl rfl rfl) rfl fun a w hS => st1 hS (ixV rfl rfl Tryd.runUnderlying45 Tryd.sizeOf3 (hV5406.rd (i := 8) rfl) (fun _ => rfl) rfl hk5416) rfl fun a w hS => stV (i := (rd x5377 v5407).symbol_) (sz := 1) 8 0 ((w64 ((rd often5404 (rd x5377 v5407).symbol_) + (1 : Int)))) hS rfl rfl hV5406 rfl Tryd.sizeOf3 (one_t3 (w64 ((rd often5404 (rd x5377 v5407).symbol_) + (1 : Int)))) (fun _ => rfl) hk5416 rfl rfl fun zs5419 w f5417 hz hz5420 hV5418 hS => ?_
       have hM := lt_to hz hM; clear hz
       replace hS := hS.re 10 (u := .slice A5381 often5404.length c5382) (v := .slice A5381 zs5419.length c5382) rfl (by rw [hz5420])
       replace hS := hS.re 97 (u := .slice A5381 often5404.length c5382) (v := .slice A5381 zs5419.length c5382) rfl (by rw [hz5420])
       refine wpList_nil <| blk_n (then_n ?_)
       refine wp_region_list <| st1 hS (bin rfl rfl rfl) rfl fun a w hS => st1 hS (mv rfl) rfl fun a w hS => wpList_nil <| then_n ?_
       exact hJ5421 _ _ ⟨zs5419, f5417, (w64 (v5407 + (1 : Int))), hS.to [1, 2, 3, 4, 5, 6, 7, 8] (by kernel_rfl) ⟨rfl, rfl, rfl, rfl, rfl, rfl, rfl, trivial⟩, hV5418, hM⟩
      ·refine wp_exit ?_
       refine then_ex (then_ex (blk_same (then_n ?_)))
       exact hJ5425 _ _ ⟨often5404, f5405, hS.to [0, 1, 2, 3, 4, 5, 6, 7] (by kernel_rfl) ⟨rfl, rfl, rfl, rfl, trivial⟩, hV5406, hM⟩
    ·intro a w hI
     obtain ⟨often5422, f5423, hS, hV5424, hM⟩ := hI
     rw [deflate_Dynamic.j5] at hM
     refine wp_seq <| wp_region_list <| st1 hS (asg rfl) rfl fun a w hS => wpList_nil <| then_n <| seq_joinJ (fun a w => ∃ (n_5434 : Int), Ss 196 [] [(0, .slice A1219 l_1218.length c1220), (8, ptr b5188 0), (9, .slice A5375 x5377.length c5376), (10, .slice A5381 often5422.length c5382), (13, .int .i64 n_5434)] H [f5189, f5191, f5163, f5172, f5177, f5186, f5378, f5423] F a w ∧ (deflate_Dynamic.j7 K l_1218 x5162 codes5171 x5176 codes5185 x5377 often5422 n_5434).wp kr kp) (fun J5435 hJ5435 => ?_) ?_
     ·refine wp_seq ?_
      refine wp_region_list <| st1 hS (mv rfl) rfl fun a w hS => st1 hS (lenV rfl Tryd.runUnderlying45) rfl fun a w hS => st1 hS (mv rfl) rfl fun a w hS => wpList_nil <| then_n <| wp_block <| s_loopJ (fun k5428 a w => ∃ (n_5426 : Int) (v5427 : Int), Ss 196 [] [(0, .slice A1219 l_1218.length c1220), (8, ptr b5188 0), (9, .slice A5375 x5377.length c5376), (10, .slice A5381 often5422.length c5382), (13, .int .i64 n_5426), (105, .slice A5381 often5422.length c5382), (106, .int .i64 (often5422.length : Int)), (107, .int .i64 v5427)] H [f5189, f5191, f5163, f5172, f5177, f5186, f5378, f5423] F a w ∧ (deflate_Dynamic.l6 K l_1218 x5162 codes5171 x5176 codes5185 x5377 often5422 k5428 n_5426 v5427).wp kr kp) K ?_ ?_ ?_
      ·exact ⟨(0 : Int), (0 : Int), hS.to [0, 1, 2, 3, 4, 5, 6, 7] (by kernel_rfl) ⟨rfl, rfl, rfl, rfl, rfl, rfl, rfl, rfl, trivial⟩, hM⟩
      ·intro a w hI; obtain ⟨_, _, _, hM⟩ := hI; exact wp_fail hM
      ·intro k5428 a w hI J5433 hJ5433
       obtain ⟨n_5426, v5427, hS, hM⟩ := hI
       rw [deflate_Dynamic.l6] at hM
       refine wp_seq <| wp_region_list <| st1 hS (bin rfl rfl rfl) rfl fun a w hS => wpList_nil <| then_n <| wp_seq <| s_cond hS rfl hM (fun hb5429 hM => ?_) (fun hb5429 hM => ?_)
       ·refine wp_skip ?_
        refine then_n <| wp_seq <| wp_block <| wp_seq <| wp_region_list ?_
        obtain ⟨hk5430, hM⟩ := wp_chk hM
        refine st1 hS (ixV rfl rfl Tryd.runUnderlying45 Tryd.sizeOf3 (hV5424.rd (i := 7) rfl) (fun _ => rfl) rfl hk5430) rfl fun a w hS => st1 hS (ldV0 rfl (hV5424.rd (i := 7) rfl) (fun _ => rfl) hk5430 rfl Tryd.isAgg3) rfl fun a w hS => st1x (v := Value.int .i64) (x0 := (rd often5422 v5427)) hS (asg rfl) rfl fun k_5431 a w hz hS => ?_
        have hM := lt_to hz hM; clear hz
        refine wpList_nil <| then_n <| wp_region_list <| st1 hS (mv rfl) rfl fun a w hS => st1 hS (mv rfl) rfl fun a w hS => st1 hS (minI rfl rfl) rfl fun a w hS => st1 hS (bin rfl rfl rfl) rfl fun a w hS => st1x (v := Value.int .i64) (x0 := (w64 (n_5426 + (if (1 : Int) < k_5431 then (1 : Int) else k_5431)))) hS (asg rfl) rfl fun n_5432 a w hz hS => ?_
        have hM := lt_to hz hM; clear hz
        refine wpList_nil <| blk_n (then_n ?_)
        refine wp_region_list <| st1 hS (bin rfl rfl rfl) rfl fun a w hS => st1 hS (mv rfl) rfl fun a w hS => wpList_nil <| then_n ?_
        exact hJ5433 _ _ ⟨n_5432, (w64 (v5427 + (1 : Int))), hS.to [0, 1, 2, 3, 4, 5, 6, 7] (by kernel_rfl) ⟨rfl, rfl, rfl, rfl, rfl, rfl, rfl, rfl, trivial⟩, hM⟩
       ·refine wp_exit ?_
        refine then_ex (then_ex (blk_same (then_n ?_)))
        exact hJ5435 _ _ ⟨n_5426, hS.to [0, 1, 2, 3, 4, 5, 6, 7] (by kernel_rfl) ⟨rfl, rfl, rfl, rfl, rfl, trivial⟩, hM⟩
     ·intro a w hI
      obtain ⟨n_5434, hS, hM⟩ := hI
      rw [deflate_Dynamic.j7] at hM
      refine seq_joinJ (fun a w => ∃ (often5451 : (List Int)) (f5452 : Frag), Ss 196 [] [(0, .slice A1219 l_1218.length c1220), (8, ptr b5188 0), (9, .slice A5375 x5377.length c5376), (10, .slice A5381 often5451.length c5382)] H [f5189, f5191, f5163, f5172, f5177, f5186, f5378, f5452] F a w ∧ (Vec 3 (ci .i64) 1 A5381 often5451 c5382 f5452) ∧ (deflate_Dynamic.j8 K l_1218 x5162 codes5171 x5176 codes5185 x5377 often5451).wp kr kp) (fun J5454 hJ5454 => ?_) ?_
      ·refine wp_seq ?_
       refine wp_region_list <| st1 hS (mv rfl) rfl fun a w hS => st1 hS (bin rfl rfl rfl) rfl fun a w hS => wpList_nil <| then_n <| s_cond hS rfl hM (fun hb5436 hM => ?_) (fun hb5436 hM => ?_)
       ·obtain ⟨hk5438, hM⟩ := wp_chk hM
        obtain ⟨hk5440, hM⟩ := wp_chk hM
        refine draw_begin (vals := [some (.slice A5381 often5422.length c5382), some (.slice A5381 often5422.length c5382), some (.slice A5381 often5422.length c5382), some (slp A5381 (Int.toNat (0 : Int) * 1)), some (.int .i64 (rd often5422 (0 : Int))), some (.int .i64 (if (1 : Int) > (rd often5422 (0 : Int)) then (1 : Int) else (rd often5422 (0 : Int)))), some (.slice A5381 often5422.length c5382), some (slp A5381 (Int.toNat (1 : Int) * 1)), some (.int .i64 (rd often5422 (1 : Int))), some (.int .i64 (if (1 : Int) > (rd often5422 (1 : Int)) then (1 : Int) else (rd often5422 (1 : Int)))), some (slp A5381 (Int.toNat (0 : Int) * 1)), none, none, none]) hS mixed rfl ?_
        intro l w ho hcl hA hst
        refine phq hA hst ho hcl navail nmust 11 [0, 1, 2, 3, 4, 5, 6, 7, 8, 9, 10] rfl rfl rfl rfl rfl (by exact ⟨nR rfl rfl rfl rfl rfl (by exact ovE (mv rfl) rfl), nR rfl rfl rfl rfl rfl (by exact ovE (mv rfl) rfl), nR rfl rfl rfl rfl rfl (by exact ovE (mv rfl) rfl), nR rfl rfl rfl rfl rfl (by exact ovE (ixV rfl rfl Tryd.runUnderlying45 Tryd.sizeOf3 (hV5424.rd (i := 7) rfl) (fun _ => rfl) rfl hk5438) rfl), nR rfl rfl rfl rfl rfl (by exact ovE (ldV0 rfl (hV5424.rd (i := 7) rfl) (fun _ => rfl) hk5438 rfl Tryd.isAgg3) rfl), nR rfl rfl rfl rfl rfl (by exact ovE (maxI rfl rfl) rfl), nR rfl rfl rfl rfl rfl (by exact ovE (mv rfl) rfl), nR rfl rfl rfl rfl rfl (by exact ovE (ixV rfl rfl Tryd.runUnderlying45 Tryd.sizeOf3 (hV5424.rd (i := 7) rfl) (fun _ => rfl) rfl hk5440) rfl), nR rfl rfl rfl rfl rfl (by exact ovE (ldV0 rfl (hV5424.rd (i := 7) rfl) (fun _ => rfl) hk5440 rfl Tryd.isAgg3) rfl), nR rfl rfl rfl rfl rfl (by exact ovE (maxI rfl rfl) rfl), nR rfl rfl rfl rfl rfl (by exact ovE (ixV rfl rfl Tryd.runUnderlying45 Tryd.sizeOf3 (hV5424.rd (i := 7) rfl) (fun _ => rfl) rfl hk5438) rfl), trivial⟩) fun D l a w ho hcl hav hpre hm hE hk hA hst => ?_
        have hS := (Ss.mk hE hst).env2 (e' := [(123, .int .i64 (if (1 : Int) > (rd often5422 (0 : Int)) then (1 : Int) else (rd often5422 (0 : Int)))), (128, slp A5381 (Int.toNat (0 : Int) * 1))]) ⟨rfl, rfl, trivial⟩
        refine op_of_nth rfl <| stV (i := (0 : Int)) (sz := 1) 7 0 ((if (1 : Int) > (rd often5422 (0 : Int)) then (1 : Int) else (rd often5422 (0 : Int)))) hS rfl rfl hV5424 rfl Tryd.sizeOf3 (one_t3 (if (1 : Int) > (rd often5422 (0 : Int)) then (1 : Int) else (rd often5422 (0 : Int)))) (fun _ => rfl) hk5438 rfl rfl fun zs5443 w f5441 hz hz5444 hV5442 hS => ?_
        have hM := lt_to hz hM; clear hz
        refine wpList_nil (then_n ?_)
        replace hst := hS.st
        obtain ⟨hk5446, hM⟩ := wp_chk hM
        obtain ⟨hcl, hmust, hav2, hA⟩ := dnN (vals' := [some (.slice A5381 often5422.length c5382), some (.slice A5381 often5422.length c5382), some (.slice A5381 often5422.length c5382), some (slp A5381 (Int.toNat (0 : Int) * 1)), some (.int .i64 (rd often5422 (0 : Int))), some (.int .i64 (if (1 : Int) > (rd often5422 (0 : Int)) then (1 : Int) else (rd often5422 (0 : Int)))), some (.slice A5381 often5422.length c5382), some (slp A5381 (Int.toNat (1 : Int) * 1)), some (.int .i64 (rd often5422 (1 : Int))), some (.int .i64 (if (1 : Int) > (rd often5422 (1 : Int)) then (1 : Int) else (rd often5422 (1 : Int)))), some (slp A5381 (Int.toNat (0 : Int) * 1)), some undef, some (slp A5381 (Int.toNat (1 : Int) * 1)), none]) 11 [(0, 11), (2, 11), (3, 11), (4, 11), (5, 11), (8, 11), (10, 11), (7, 8), (6, 7)] hA hcl hav hm hpre rfl rfl rfl rfl rfl
        clear hm hav
        refine phq hA hst ho hcl hav2 hmust 13 [1, 9, 12] rfl rfl rfl rfl rfl (by exact ⟨nR rfl rfl rfl rfl rfl (by exact ovE (mv rfl) rfl), nR rfl rfl rfl rfl rfl (by exact ovE (maxI rfl rfl) rfl), nR rfl rfl rfl rfl rfl (by exact ovE (ixV (lenx hz5444 rfl) rfl Tryd.runUnderlying45 Tryd.sizeOf3 (hV5442.rd (i := 7) rfl) (fun _ => rfl) rfl hk5446) rfl), trivial⟩) fun D l a w ho hcl hav hpre hm hE hk hA hst => ?_
        have hS := (Ss.mk hE hst).env2 (e' := [(127, .int .i64 (if (1 : Int) > (rd often5422 (1 : Int)) then (1 : Int) else (rd often5422 (1 : Int)))), (129, slp A5381 (Int.toNat (1 : Int) * 1))]) ⟨rfl, rfl, trivial⟩
        refine op_of_nth rfl <| stV (i := (1 : Int)) (sz := 1) 7 0 ((if (1 : Int) > (rd often5422 (1 : Int)) then (1 : Int) else (rd often5422 (1 : Int)))) hS rfl rfl hV5442 rfl Tryd.sizeOf3 (one_t3 (if (1 : Int) > (rd often5422 (1 : Int)) then (1 : Int) else (rd often5422 (1 : Int)))) (fun _ => rfl) hk5446 rfl rfl fun zs5449 w f5447 hz hz5450 hV5448 hS => ?_
        have hM := lt_to hz hM; clear hz
        refine wpList_nil (then_n ?_)
        replace hst := hS.st
        obtain ⟨hcl, hmust, hav2, hA⟩ := dnN (vals' := [some (.slice A5381 often5422.length c5382), some (.slice A5381 often5422.length c5382), some (.slice A5381 often5422.length c5382), some (slp A5381 (Int.toNat (0 : Int) * 1)), some (.int .i64 (rd often5422 (0 : Int))), some (.int .i64 (if (1 : Int) > (rd often5422 (0 : Int)) then (1 : Int) else (rd often5422 (0 : Int)))), some (.slice A5381 often5422.length c5382), some (slp A5381 (Int.toNat (1 : Int) * 1)), some (.int .i64 (rd often5422 (1 : Int))), some (.int .i64 (if (1 : Int) > (rd often5422 (1 : Int)) then (1 : Int) else (rd often5422 (1 : Int)))), some (slp A5381 (Int.toNat (0 : Int) * 1)), some undef, some (slp A5381 (Int.toNat (1 : Int) * 1)), some undef]) 13 [(0, 13), (1, 13), (2, 13), (3, 13), (4, 13), (5, 13), (6, 13), (7, 13), (8, 13), (9, 13), (10, 13), (11, 13), (12, 13)] hA hcl hav hm hpre rfl rfl rfl rfl rfl
        clear hm hav
        refine phqE hA hst ho hcl hmust [] rfl rfl rfl trivial fun a w hS => ?_
        replace hS := hS.env2 (e' := [(0, .slice A1219 l_1218.length c1220), (8, ptr b5188 0), (9, .slice A5375 x5377.length c5376), (10, .slice A5381 zs5449.length c5382)]) ⟨rfl, rfl, rfl, (relk (u := .slice A5381 often5422.length c5382) rfl (by rw [hz5450, hz5444])), trivial⟩
        refine then_n ?_
        exact hJ5454 _ _ ⟨zs5449, f5447, hS.to [0, 1, 2, 3, 4, 5, 6, 7] (by kernel_rfl) ⟨rfl, rfl, rfl, rfl, trivial⟩, hV5448, hM⟩
       ·refine wp_skip ?_
        refine then_n ?_
        exact hJ5454 _ _ ⟨often5422, f5423, hS.to [0, 1, 2, 3, 4, 5, 6, 7] (by kernel_rfl) ⟨rfl, rfl, rfl, rfl, trivial⟩, hV5424, hM⟩
      ·intro a w hI
       obtain ⟨often5451, f5452, hS, hV5453, hM⟩ := hI
       rw [deflate_Dynamic.j8] at hM
       refine wp_seq <| wp_region_list <| st1 hS (mv rfl) rfl fun a w hS => s_call hS rfl Tryd.call40 (huff_Lengths_c hG K often5451 (7 : Int) A5381 c5382 (hV5453.rdF (i := 7) rfl) (hV5453.cap (fun _ => rfl) rfl) (hS.st.part 0 [0, 1, 2, 3, 4, 5, 6, 7] (by kernel_rfl)) (wp_bind hM) (fun A5455 c5456 x5457 f5458 x5459 w hM h5460 hst => s_back hS.ev hst.appF rfl fun hS => ?_) (fun v w hk hst => s_pan (then_pan (⟨hS.ev.defs, hpan _ _ hk hst.appF.frame⟩))))
       replace hS : Ss _ _ _ H [f5458, f5189, f5191, f5163, f5172, f5177, f5186, f5378, f5452] F _ _ := hS
       refine st1 hS (mv rfl) rfl fun a w hS => st1 hS (ex rfl rfl) rfl fun a w hS => st1 hS (ex rfl rfl) rfl fun a w hS => st1 hS (asg rfl) rfl fun a w hS => st1 hS (asg rfl) rfl fun a w hS => wpList_nil <| then_n <| wp_seq <| wp_region_list <| st1 hS (mv rfl) rfl fun a w hS => s_call hS rfl Tryd.call37 (deflate_coded_c hG K x5457 A5455 c5456 (h5460.rdF (i := 0) rfl) (h5460.cap (fun _ => rfl) rfl) (hS.st.part 0 [0, 1, 2, 3, 4, 5, 6, 7, 8] (by kernel_rfl)) (wp_bind hM) (fun A5461 c5462 codes5463 f5464 w hM h5465 hst => s_back hS.ev hst.appF rfl fun hS => ?_))
       replace hS : Ss _ _ _ H [f5464, f5458, f5189, f5191, f5163, f5172, f5177, f5186, f5378, f5452] F _ _ := hS
       refine alc ([.slice none 0 0, .slice none 0 0]) hS Tryd.zeroValue47 rfl rfl fun w b5466 f5467 hB5468 hS => ?_
       obtain ⟨f5469, hV5470, hS⟩ := hS.nilV 3 (ci .i64) 1
       obtain ⟨f5471, hV5472, hS⟩ := hS.nilV 3 (ci .i64) 1
       refine stB 2 ([.slice A5455 x5457.length c5456, .slice A5461 codes5463.length c5462]) ([.slice A5455 x5457.length c5456, .slice A5461 codes5463.length c5462]) hS rfl rfl hB5468 rfl rfl Tryd.sizeOf47 (by simp [Value.oneCell']) (Nat.le_of_ble_eq_true rfl) rfl fun w f5473 hB5474 hS => wpList_nil <| then_n <| wp_seq <| wp_region_list <| st1 hS (mv rfl) rfl fun a w hS => st1 hS (nck rfl) rfl fun a w hS => st1 hS (fad rfl Tryd.runUnderlying49 rfl Tryd.sizeOf44 rfl) rfl fun a w hS => s_call hS rfl Tryd.call23 (bits_Writer_Put_deflate_writer_c hG K (T_deflate_writer.mk (T_bits_Writer.mk (T_bits_place.mk (0 : Int)) ([] : List Int)) (T_deflate_code.mk x5162 codes5171) (T_deflate_code.mk x5176 codes5185)) (5 : Int) (3 : Int) b5188 f5189 none (0) f5191 A5160 c5161 f5163 A5169 c5170 f5172 A5174 c5175 f5177 A5183 c5184 f5186 hB5190 hV5192 h5166 h5173 h5180 h5187 (hS.st.part 6 [5, 6, 7, 8, 9, 10, 0, 1, 2, 3, 4, 11, 12] (by kernel_rfl)) (wp_bind hM) (fun x5475 at_5476 A5477 c5478 bytes5479 f5480 f5481 w hM h5482 h5483 hst => s_back hS.ev hst.appF rfl fun hS => ?_))
       replace hS : Ss _ _ _ H [f5481, f5480, f5163, f5172, f5177, f5186, f5471, f5469, f5473, f5464, f5458, f5378, f5452] F _ _ := hS
       refine wpList_nil <| then_n <| wp_seq <| wp_region_list <| st1 hS (mv rfl) rfl fun a w hS => st1 hS (nck rfl) rfl fun a w hS => st1 hS (fad rfl Tryd.runUnderlying49 rfl Tryd.sizeOf44 rfl) rfl fun a w hS => s_call hS rfl Tryd.call23 (bits_Writer_Put_deflate_writer_c hG K (T_deflate_writer.mk (T_bits_Writer.mk (T_bits_place.mk at_5476) bytes5479) (T_deflate_code.mk x5162 codes5171) (T_deflate_code.mk x5176 codes5185)) (29 : Int) (5 : Int) b5188 f5481 A5477 c5478 f5480 A5160 c5161 f5163 A5169 c5170 f5172 A5174 c5175 f5177 A5183 c5184 f5186 h5483 h5482 h5166 h5173 h5180 h5187 (hS.st.part 6 [0, 1, 2, 3, 4, 5, 6, 7, 8, 9, 10, 11, 12] (by kernel_rfl)) (wp_bind hM) (fun x5484 at_5485 A5486 c5487 bytes5488 f5489 f5490 w hM h5491 h5492 hst => s_back hS.ev hst.appF rfl fun hS => ?_))
       replace hS : Ss _ _ _ H [f5490, f5489, f5163, f5172, f5177, f5186, f5471, f5469, f5473, f5464, f5458, f5378, f5452] F _ _ := hS
       refine wpList_nil <| then_n <| wp_seq <| wp_region_list <| st1 hS (mv rfl) rfl fun a w hS => st1 hS (nck rfl) rfl fun a w hS => st1 hS (fad rfl Tryd.runUnderlying49 rfl Tryd.sizeOf44 rfl) rfl fun a w hS => s_call hS rfl Tryd.call23 (bits_Writer_Put_deflate_writer_c hG K (T_deflate_writer.mk (T_bits_Writer.mk (T_bits_place.mk at_5485) bytes5488) (T_deflate_code.mk x5162 codes5171) (T_deflate_code.mk x5176 codes5185)) (29 : Int) (5 : Int) b5188 f5490 A5486 c5487 f5489 A5160 c5161 f5163 A5169 c5170 f5172 A5174 c5175 f5177 A5183 c5184 f5186 h5492 h5491 h5166 h5173 h5180 h5187 (hS.st.part 6 [0, 1, 2, 3, 4, 5, 6, 7, 8, 9, 10, 11, 12] (by kernel_rfl)) (wp_bind hM) (fun x5493 at_5494 A5495 c5496 bytes5497 f5498 f5499 w hM h5500 h5501 hst => s_back hS.ev hst.appF rfl fun hS => ?_))
       replace hS : Ss _ _ _ H [f5499, f5498, f5163, f5172, f5177, f5186, f5471, f5469, f5473, f5464, f5458, f5378, f5452] F _ _ := hS
       refine wpList_nil <| then_n <| wp_seq <| wp_region_list <| st1 hS (mv rfl) rfl fun a w hS => st1 hS (nck rfl) rfl fun a w hS => st1 hS (fad rfl Tryd.runUnderlying49 rfl Tryd.sizeOf44 rfl) rfl fun a w hS => s_call hS rfl Tryd.call23 (bits_Writer_Put_deflate_writer_c hG K (T_deflate_writer.mk (T_bits_Writer.mk (T_bits_place.mk at_5494) bytes5497) (T_deflate_code.mk x5162 codes5171) (T_deflate_code.mk x5176 codes5185)) (15 : Int) (4 : Int) b5188 f5499 A5495 c5496 f5498 A5160 c5161 f5163 A5169 c5170 f5172 A5174 c5175 f5177 A5183 c5184 f5186 h5501 h5500 h5166 h5173 h5180 h5187 (hS.st.part 6 [0, 1, 2, 3, 4, 5, 6, 7, 8, 9, 10, 11, 12] (by kernel_rfl)) (wp_bind hM) (fun x5502 at_5503 A5504 c5505 bytes5506 f5507 f5508 w hM h5509 h5510 hst => s_back hS.ev hst.appF rfl fun hS => ?_))
       replace hS : Ss _ _ _ H [f5508, f5507, f5163, f5172, f5177, f5186, f5471, f5469, f5473, f5464, f5458, f5378, f5452] F _ _ := hS
       refine wpList_nil <| then_n <| seq_joinJ (fun a w => ∃ (at_5561 : Int) (A5562 : Option Addr) (c5563 : Nat) (bytes5564 : (List Int)) (f5565 : Frag) (f5567 : Frag), Ss 196 [] [(0, .slice A1219 l_1218.length c1220), (8, ptr b5188 0), (9, .slice A5375 x5377.length c5376), (18, ptr b5466 0)] H [f5567, f5565, f5163, f5172, f5177, f5186, f5378, f5473, f5458, f5464] F a w ∧ (Vec 5 (ci .u8) 1 A5562 bytes5564 c5563 f5565) ∧ (Blk f5567 b5188 ([.int .i64 at_5561, .slice A5562 bytes5564.length c5563, .slice A5160 x5162.length c5161, .slice A5169 codes5171.length c5170, .slice A5174 x5176.length c5175, .slice A5183 codes5185.length c5184]) 49) ∧ (deflate_Dynamic.j10 K l_1218 x5162 codes5171 x5176 codes5185 x5377 x5457 codes5463 at_5561 bytes5564).wp kr kp) (fun J5569 hJ5569 => ?_) ?_
       ·refine wp_seq ?_
        refine wp_region_list <| st1 hS (ldGAr rfl hG.g0 (by rfl) Tryd.isAgg77 Tryd.sizeOf77) rfl fun a w hS => st1 hS (mv rfl) rfl fun a w hS => wpList_nil <| then_n <| wp_block <| s_loopJ (fun k5545 a w => ∃ (at_5536 : Int) (A5537 : Option Addr) (c5538 : Nat) (bytes5539 : (List Int)) (f5540 : Frag) (f5542 : Frag) (v5544 : Int), Ss 196 [] [(0, .slice A1219 l_1218.length c1220), (8, ptr b5188 0), (9, .slice A5375 x5377.length c5376), (18, ptr b5466 0), (153, .agg ⟨tab_deflate_order.flatMap (ci .i64)⟩), (154, .int .i64 v5544)] H [f5542, f5540, f5163, f5172, f5177, f5186, f5378, f5473, f5458, f5464] F a w ∧ (Vec 5 (ci .u8) 1 A5537 bytes5539 c5538 f5540) ∧ (Blk f5542 b5188 ([.int .i64 at_5536, .slice A5537 bytes5539.length c5538, .slice A5160 x5162.length c5161, .slice A5169 codes5171.length c5170, .slice A5174 x5176.length c5175, .slice A5183 codes5185.length c5184]) 49) ∧ (deflate_Dynamic.l9 K l_1218 x5162 codes5171 x5176 codes5185 x5377 x5457 codes5463 k5545 at_5536 bytes5539 v5544).wp kr kp) K ?_ ?_ ?_
        ·exact ⟨at_5503, A5504, c5505, bytes5506, f5507, f5508, (0 : Int), hS.to [0, 1, 2, 3, 4, 5, 11, 8, 10, 9] (by kernel_rfl) ⟨rfl, rfl, rfl, rfl, rfl, rfl, trivial⟩, h5509, h5510, hM⟩
        ·intro a w hI; obtain ⟨_, _, _, _, _, _, _, _, _, _, hM⟩ := hI; exact wp_fail hM
        ·intro k5545 a w hI J5560 hJ5560
         obtain ⟨at_5536, A5537, c5538, bytes5539, f5540, f5542, v5544, hS, hV5541, hB5543, hM⟩ := hI
         rw [deflate_Dynamic.l9] at hM
         refine wp_seq <| wp_region_list <| st1 hS (bin rfl rfl rfl) rfl fun a w hS => wpList_nil <| then_n <| wp_seq <| s_cond hS rfl hM (fun hb5546 hM => ?_) (fun hb5546 hM => ?_)
         ·refine wp_skip ?_
          refine then_n <| wp_seq <| wp_block <| wp_seq <| wp_region_list ?_
          obtain ⟨hk5547, hM⟩ := wp_chk hM
          refine st1 hS (ixA rfl rfl Tryd.runUnderlying77 Tryd.isAgg3 Tryd.sizeOf3 (fun _ => rfl) tab_deflate_order_len hk5547 rfl) rfl fun a w hS => st1x (v := Value.int .i64) (x0 := (rd tab_deflate_order v5544)) hS (asg rfl) rfl fun s5548 a w hz hS => ?_
          have hM := lt_to hz hM; clear hz
          refine wpList_nil <| then_n ?_
          obtain ⟨hk5550, hM⟩ := wp_chk hM
          refine draw_begin (vals := [some (ptr b5188 0), some (ptr b5188 0), some (ptr b5188 0), some (ptr b5466 0), some (.slice A5455 x5457.length c5456), some (.int .i64 s5548), some (slp A5455 (Int.toNat s5548 * 1)), some (.int .i64 (rd x5457 s5548)), some (.int .u32 (wr .u32 (rd x5457 s5548))), none]) hS mixed rfl ?_
          intro l w ho hcl hA hst
          refine phq hA hst ho hcl navail nmust 9 [0, 1, 2, 3, 4, 5, 6, 7, 8] rfl rfl rfl rfl rfl (by exact ⟨nR rfl rfl rfl rfl rfl (by exact ovE (mv rfl) rfl), nR rfl rfl rfl rfl rfl (by exact ovE (nck rfl) rfl), nR rfl rfl rfl rfl rfl (by exact ovE (fad rfl Tryd.runUnderlying49 rfl Tryd.sizeOf44 rfl) rfl), nR rfl rfl rfl rfl rfl (by exact ovE (fad rfl Tryd.runUnderlying47 rfl Tryd.sizeOf45 rfl) rfl), nR rfl rfl rfl rfl rfl (by exact ovE (ldb 7 rfl hB5474 rfl rfl Tryd.isAgg45) rfl), nR rfl rfl rfl rfl rfl (by exact ovE (mv rfl) rfl), nR rfl rfl rfl rfl rfl (by exact ovE (ixV rfl rfl Tryd.runUnderlying45 Tryd.sizeOf3 (h5460.rd (i := 8) rfl) (fun _ => rfl) rfl hk5550) rfl), nR rfl rfl rfl rfl rfl (by exact ovE (ldV0 rfl (h5460.rd (i := 8) rfl) (fun _ => rfl) hk5550 rfl Tryd.isAgg3) rfl), nR rfl rfl rfl rfl rfl (by exact ovE (cvi rfl Tryd.runUnderlying3 Tryd.runUnderlying53) rfl), trivial⟩) fun D l a w ho hcl hav hpre hm hE hk hA hst => ?_
          have hS := (Ss.mk hE hst).env2 (e' := [(159, ptr b5188 0), (165, .int .u32 (wr .u32 (rd x5457 s5548)))]) ⟨rfl, rfl, trivial⟩
          refine op_of_nth rfl <| s_call hS rfl Tryd.call23 (bits_Writer_Put_deflate_writer_c hG K (T_deflate_writer.mk (T_bits_Writer.mk (T_bits_place.mk at_5536) bytes5539) (T_deflate_code.mk x5162 codes5171) (T_deflate_code.mk x5176 codes5185)) (wr .u32 (rd x5457 s5548)) (3 : Int) b5188 f5542 A5537 c5538 f5540 A5160 c5161 f5163 A5169 c5170 f5172 A5174 c5175 f5177 A5183 c5184 f5186 hB5543 hV5541 h5166 h5173 h5180 h5187 (hS.st.part 6 [0, 1, 2, 3, 4, 5, 6, 7, 8, 9] (by kernel_rfl)) (wp_bind hM) (fun x5551 at_5552 A5553 c5554 bytes5555 f5556 f5557 w hM h5558 h5559 hst => s_back hS.ev hst.appF rfl fun hS => ?_))
          replace hS : Ss _ _ _ H [f5557, f5556, f5163, f5172, f5177, f5186, f5378, f5473, f5458, f5464] F _ _ := hS
          refine wpList_nil (then_n ?_)
          replace hst := hS.st
          obtain ⟨hcl, hmust, hav2, hA⟩ := dn (vals' := [some (ptr b5188 0), some (ptr b5188 0), some (ptr b5188 0), some (ptr b5466 0), some (.slice A5455 x5457.length c5456), some (.int .i64 s5548), some (slp A5455 (Int.toNat s5548 * 1)), some (.int .i64 (rd x5457 s5548)), some (.int .u32 (wr .u32 (rd x5457 s5548))), some (.int .i64 x5551)]) 9 [(2, 9), (8, 9), (1, 2), (7, 8), (0, 1), (6, 7), (4, 6), (5, 6), (3, 4)] hA hcl hav hm hpre hk rfl rfl rfl rfl rfl rfl rfl
          clear hm hav
          refine phqE hA hst ho hcl hmust [] rfl rfl rfl trivial fun a w hS => ?_
          replace hS := hS.env2 (e' := [(0, .slice A1219 l_1218.length c1220), (8, ptr b5188 0), (9, .slice A5375 x5377.length c5376), (18, ptr b5466 0), (153, .agg ⟨tab_deflate_order.flatMap (ci .i64)⟩), (154, .int .i64 v5544)]) ⟨rfl, rfl, rfl, rfl, rfl, rfl, trivial⟩
          refine blk_n (then_n ?_)
          refine wp_region_list <| st1 hS (bin rfl rfl rfl) rfl fun a w hS => st1 hS (mv rfl) rfl fun a w hS => wpList_nil <| then_n ?_
          exact hJ5560 _ _ ⟨at_5552, A5553, c5554, bytes5555, f5556, f5557, (w64 (v5544 + (1 : Int))), hS.to [0, 1, 2, 3, 4, 5, 6, 7, 8, 9] (by kernel_rfl) ⟨rfl, rfl, rfl, rfl, rfl, rfl, trivial⟩, h5558, h5559, hM⟩
         ·refine wp_exit ?_
          refine then_ex (then_ex (blk_same (then_n ?_)))
          exact hJ5569 _ _ ⟨at_5536, A5537, c5538, bytes5539, f5540, f5542, hS.to [0, 1, 2, 3, 4, 5, 6, 7, 8, 9] (by kernel_rfl) ⟨rfl, rfl, rfl, rfl, trivial⟩, hV5541, hB5543, hM⟩
       ·intro a w hI
        obtain ⟨at_5561, A5562, c5563, bytes5564, f5565, f5567, hS, hV5566, hB5568, hM⟩ := hI
        rw [deflate_Dynamic.j10] at hM
        refine seq_joinJ (fun a w => ∃ (at_5739 : Int) (A5740 : Option Addr) (c5741 : Nat) (bytes5742 : (List Int)) (f5743 : Frag) (f5745 : Frag), Ss 196 [] [(0, .slice A1219 l_1218.length c1220), (8, ptr b5188 0)] H [f5745, f5743, f5163, f5172, f5177, f5186] F a w ∧ (Vec 5 (ci .u8) 1 A5740 bytes5742 c5741 f5743) ∧ (Blk f5745 b5188 ([.int .i64 at_5739, .slice A5740 bytes5742.length c5741, .slice A5160 x5162.length c5161, .slice A5169 codes5171.length c5170, .slice A5174 x5176.length c5175, .slice A5183 codes5185.length c5184]) 49) ∧ (deflate_Dynamic.j12 K l_1218 x5162 codes5171 x5176 codes5185 at_5739 bytes5742).wp kr kp) (fun J5747 hJ5747 => ?_) ?_
        ·refine wp_seq ?_
         refine wp_region_list <| st1 hS (mv rfl) rfl fun a w hS => st1 hS (lenV rfl Tryd.runUnderlying72) rfl fun a w hS => st1 hS (mv rfl) rfl fun a w hS => wpList_nil <| then_n <| wp_block <| s_loopJ (fun k5713 a w => ∃ (at_5704 : Int) (A5705 : Option Addr) (c5706 : Nat) (bytes5707 : (List Int)) (f5708 : Frag) (f5710 : Frag) (v5712 : Int), Ss 196 [] [(0, .slice A1219 l_1218.length c1220), (8, ptr b5188 0), (18, ptr b5466 0), (168, .slice A5375 x5377.length c5376), (169, .int .i64 (x5377.length : Int)), (170, .int .i64 v5712)] H [f5710, f5708, f5163, f5172, f5177, f5186, f5473, f5458, f5464, f5378] F a w ∧ (Vec 5 (ci .u8) 1 A5705 bytes5707 c5706 f5708) ∧ (Blk f5710 b5188 ([.int .i64 at_5704, .slice A5705 bytes5707.length c5706, .slice A5160 x5162.length c5161, .slice A5169 codes5171.length c5170, .slice A5174 x5176.length c5175, .slice A5183 codes5185.length c5184]) 49) ∧ (deflate_Dynamic.l11 K l_1218 x5162 codes5171 x5176 codes5185 x5377 x5457 codes5463 k5713 at_5704 bytes5707 v5712).wp kr kp) K ?_ ?_ ?_
         ·exact ⟨at_5561, A5562, c5563, bytes5564, f5565, f5567, (0 : Int), hS.to [0, 1, 2, 3, 4, 5, 7, 8, 9, 6] (by kernel_rfl) ⟨rfl, rfl, rfl, rfl, rfl, rfl, trivial⟩, hV5566, hB5568, hM⟩
         ·intro a w hI; obtain ⟨_, _, _, _, _, _, _, _, _, _, hM⟩ := hI; exact wp_fail hM
         ·intro k5713 a w hI J5738 hJ5738
          obtain ⟨at_5704, A5705, c5706, bytes5707, f5708, f5710, v5712, hS, hV5709, hB5711, hM⟩ := hI
          rw [deflate_Dynamic.l11] at hM
          refine wp_seq <| wp_region_list <| st1 hS (bin rfl rfl rfl) rfl fun a w hS => wpList_nil <| then_n <| wp_seq <| s_cond hS rfl hM (fun hb5714 hM => ?_) (fun hb5714 hM => ?_)
          ·refine wp_skip ?_
           refine then_n <| wp_seq <| wp_block <| wp_seq <| wp_region_list ?_
           obtain ⟨hk5715, hM⟩ := wp_chk hM
           refine st1 hS (ixV rfl rfl Tryd.runUnderlying72 Tryd.sizeOf75 (h5379.rd (i := 9) rfl) (fun _ => rfl) rfl hk5715) rfl fun a w hS => st1 hS (ldVA rfl (h5379.rd (i := 9) rfl) (fun _ => rfl) hk5715 Tryd.isAgg75 Tryd.sizeOf75 rfl) rfl fun a w hS => alc ([.int .i64 (0 : Int), .int .i64 (0 : Int), .int .i64 (0 : Int)]) hS Tryd.zeroValue75 rfl rfl fun w b5716 f5717 hB5718 hS => stB 0 ([.int .i64 ((rd x5377 v5712).symbol_), .int .i64 ((rd x5377 v5712).more_), .int .i64 ((rd x5377 v5712).bits_)]) ([.int .i64 ((rd x5377 v5712).symbol_), .int .i64 ((rd x5377 v5712).more_), .int .i64 ((rd x5377 v5712).bits_)]) hS rfl rfl hB5718 rfl rfl Tryd.sizeOf75 (by simp [Value.oneCell']) (Nat.le_of_ble_eq_true rfl) rfl fun w f5719 hB5720 hS => wpList_nil <| then_n <| wp_seq <| wp_region_list <| st1 hS (mv rfl) rfl fun a w hS => st1 hS (ldbA 7 rfl hB5474 rfl ([.slice A5455 x5457.length c5456, .slice A5461 codes5463.length c5462]) rfl rfl Tryd.isAgg47 Tryd.sizeOf47) rfl fun a w hS => st1 hS (fad rfl Tryd.runUnderlying75 rfl Tryd.sizeOf3 rfl) rfl fun a w hS => st1 hS (ldb 0 rfl hB5720 rfl rfl Tryd.isAgg3) rfl fun a w hS => s_call hS rfl Tryd.call41 (deflate_writer_symbol_c hG K (T_deflate_writer.mk (T_bits_Writer.mk (T_bits_place.mk at_5704) bytes5707) (T_deflate_code.mk x5162 codes5171) (T_deflate_code.mk x5176 codes5185)) (T_deflate_code.mk x5457 codes5463) ((rd x5377 v5712).symbol_) b5188 f5710 A5705 c5706 f5708 A5160 c5161 f5163 A5169 c5170 f5172 A5174 c5175 f5177 A5183 c5184 f5186 A5455 c5456 A5461 c5462 hB5711 hV5709 h5166 h5173 h5180 h5187 (h5460.rdF (i := 2) rfl) (h5460.cap (fun _ => rfl) rfl) (h5465.rdF (i := 3) rfl) (h5465.cap (fun _ => rfl) rfl) (hS.st.part 6 [1, 2, 3, 4, 5, 6, 0, 7, 8, 9, 10] (by kernel_rfl)) (wp_bind hM) (fun at_5721 A5722 c5723 bytes5724 f5725 f5726 w hM h5727 h5728 hst => s_back hS.ev hst.appF rfl fun hS => ?_))
           replace hS : Ss _ _ _ H [f5726, f5725, f5163, f5172, f5177, f5186, f5719, f5473, f5458, f5464, f5378] F _ _ := hS
           refine wpList_nil <| then_n <| draw_begin (vals := [some (ptr b5188 0), some (ptr b5188 0), some (ptr b5188 0), some (ptr b5716 1), some (.int .i64 ((rd x5377 v5712).more_)), some (.int .u32 (wr .u32 (rd x5377 v5712).more_)), some (ptr b5716 2), some (.int .i64 ((rd x5377 v5712).bits_)), none]) hS mixed rfl ?_
           intro l w ho hcl hA hst
           refine phq hA hst ho hcl navail nmust 8 [0, 1, 2, 3, 4, 5, 6, 7] rfl rfl rfl rfl rfl (by exact ⟨nR rfl rfl rfl rfl rfl (by exact ovE (mv rfl) rfl), nR rfl rfl rfl rfl rfl (by exact ovE (nck rfl) rfl), nR rfl rfl rfl rfl rfl (by exact ovE (fad rfl Tryd.runUnderlying49 rfl Tryd.sizeOf44 rfl) rfl), nR rfl rfl rfl rfl rfl (by exact ovE (fad rfl Tryd.runUnderlying75 rfl Tryd.sizeOf3 rfl) rfl), nR rfl rfl rfl rfl rfl (by exact ovE (ldb 6 rfl hB5720 rfl rfl Tryd.isAgg3) rfl), nR rfl rfl rfl rfl rfl (by exact ovE (cvi rfl Tryd.runUnderlying3 Tryd.runUnderlying53) rfl), nR rfl rfl rfl rfl rfl (by exact ovE (fad rfl Tryd.runUnderlying75 rfl Tryd.sizeOf3 rfl) rfl), nR rfl rfl rfl rfl rfl (by exact ovE (ldb 6 rfl hB5720 rfl rfl Tryd.isAgg3) rfl), trivial⟩) fun D l a w ho hcl hav hpre hm hE hk hA hst => ?_
           have hS := (Ss.mk hE hst).env2 (e' := [(181, ptr b5188 0), (184, .int .u32 (wr .u32 (rd x5377 v5712).more_)), (186, .int .i64 ((rd x5377 v5712).bits_))]) ⟨rfl, rfl, rfl, trivial⟩
           refine op_of_nth rfl <| s_call hS rfl Tryd.call23 (bits_Writer_Put_deflate_writer_c hG K (T_deflate_writer.mk (T_bits_Writer.mk (T_bits_place.mk at_5721) bytes5724) (T_deflate_code.mk x5162 codes5171) (T_deflate_code.mk x5176 codes5185)) (wr .u32 (rd x5377 v5712).more_) ((rd x5377 v5712).bits_) b5188 f5726 A5722 c5723 f5725 A5160 c5161 f5163 A5169 c5170 f5172 A5174 c5175 f5177 A5183 c5184 f5186 h5728 h5727 h5166 h5173 h5180 h5187 (hS.st.part 6 [0, 1, 2, 3, 4, 5, 6, 7, 8, 9, 10] (by kernel_rfl)) (wp_bind hM) (fun x5729 at_5730 A5731 c5732 bytes5733 f5734 f5735 w hM h5736 h5737 hst => s_back hS.ev hst.appF rfl fun hS => ?_))
           replace hS : Ss _ _ _ H [f5735, f5734, f5163, f5172, f5177, f5186, f5719, f5473, f5458, f5464, f5378] F _ _ := hS
           refine wpList_nil (then_n ?_)
           replace hst := hS.st
           obtain ⟨hcl, hmust, hav2, hA⟩ := dn (vals' := [some (ptr b5188 0), some (ptr b5188 0), some (ptr b5188 0), some (ptr b5716 1), some (.int .i64 ((rd x5377 v5712).more_)), some (.int .u32 (wr .u32 (rd x5377 v5712).more_)), some (ptr b5716 2), some (.int .i64 ((rd x5377 v5712).bits_)), some (.int .i64 x5729)]) 8 [(2, 8), (5, 8), (7, 8), (1, 2), (4, 5), (6, 7), (0, 1), (3, 4)] hA hcl hav hm hpre hk rfl rfl rfl rfl rfl rfl rfl
           clear hm hav
           refine phqE hA hst ho hcl hmust [] rfl rfl rfl trivial fun a w hS => ?_
           replace hS := hS.env2 (e' := [(0, .slice A1219 l_1218.length c1220), (8, ptr b5188 0), (18, ptr b5466 0), (168, .slice A5375 x5377.length c5376), (169, .int .i64 (x5377.length : Int)), (170, .int .i64 v5712)]) ⟨rfl, rfl, rfl, rfl, rfl, rfl, trivial⟩
           refine blk_n (then_n ?_)
           refine wp_region_list <| st1 hS (bin rfl rfl rfl) rfl fun a w hS => st1 hS (mv rfl) rfl fun a w hS => wpList_nil <| then_n ?_
           exact hJ5738 _ _ ⟨at_5730, A5731, c5732, bytes5733, f5734, f5735, (w64 (v5712 + (1 : Int))), hS.to [0, 1, 2, 3, 4, 5, 7, 8, 9, 10] (by kernel_rfl) ⟨rfl, rfl, rfl, rfl, rfl, rfl, trivial⟩, h5736, h5737, hM⟩
          ·refine wp_exit ?_
           refine then_ex (then_ex (blk_same (then_n ?_)))
           exact hJ5747 _ _ ⟨at_5704, A5705, c5706, bytes5707, f5708, f5710, hS.to [0, 1, 2, 3, 4, 5] (by kernel_rfl) ⟨rfl, rfl, trivial⟩, hV5709, hB5711, hM⟩
        ·intro a w hI
         obtain ⟨at_5739, A5740, c5741, bytes5742, f5743, f5745, hS, hV5744, hB5746, hM⟩ := hI
         rw [deflate_Dynamic.j12] at hM
         refine wp_seq <| wp_region_list <| st1 hS (mv rfl) rfl fun a w hS => st1 hS (mv rfl) rfl fun a w hS => s_call hS rfl Tryd.call24 (deflate_writer_tokens_c hG K (T_deflate_writer.mk (T_bits_Writer.mk (T_bits_place.mk at_5739) bytes5742) (T_deflate_code.mk x5162 codes5171) (T_deflate_code.mk x5176 codes5185)) l_1218 b5188 f5745 A5740 c5741 f5743 A5160 c5161 f5163 A5169 c5170 f5172 A5174 c5175 f5177 A5183 c5184 f5186 A1219 c1220 hB5746 hV5744 h5166 h5173 h5180 h5187 (hr1221.app _) hc1222 (hS.st.part 6 [0, 1, 2, 3, 4, 5] (by kernel_rfl)) (wp_bind hM) (fun at_5748 A5749 c5750 bytes5751 f5752 f5753 w hM h5754 h5755 hst => s_back hS.ev hst.appF rfl fun hS => ?_))
         replace hS : Ss _ _ _ H [f5753, f5752, f5163, f5172, f5177, f5186] F _ _ := hS
         refine wpList_nil <| then_n <| wp_seq <| wp_region_list <| st1 hS (mv rfl) rfl fun a w hS => st1 hS (nck rfl) rfl fun a w hS => st1 hS (fad rfl Tryd.runUnderlying49 rfl Tryd.sizeOf44 rfl) rfl fun a w hS => s_call hS rfl Tryd.call25 (bits_Writer_String_deflate_writer_c hG K (T_deflate_writer.mk (T_bits_Writer.mk (T_bits_place.mk at_5748) bytes5751) (T_deflate_code.mk x5162 codes5171) (T_deflate_code.mk x5176 codes5185)) b5188 f5753 A5749 c5750 f5752 A5160 c5161 f5163 A5169 c5170 f5172 A5174 c5175 f5177 A5183 c5184 f5186 h5755 h5754 h5166 h5173 h5180 h5187 (hS.st.part 6 [0, 1, 2, 3, 4, 5] (by kernel_rfl)) (wp_bind hM) (fun x5756 w hM  hst => s_back hS.ev hst.appF rfl fun hS => ?_))
         replace hS : Ss _ _ _ H [f5753, f5752, f5163, f5172, f5177, f5186] F _ _ := hS
         refine st1 hS (asg rfl) rfl fun a w hS => st1 hS (asg rfl) rfl fun a w hS => wpList_nil <| then_n <| wp_ret ?_
         exact s_ret (rs := [2, 3]) hS rfl rfl (hret x5756 (0 : Int) w (wp_ok hM) (hS.st.pick [] (by kernel_rfl)))

theorem deflate_Stored_c {H : Imm} {F : List Frag} {w : World} {R : Ending → World → Prop} {kr : (List UInt8) → Prop} {kp : Value → Prop} (hG : Gl H) (K : Nat) (s5761 : List UInt8)
    (hS : St w H [] F) (hm : (deflate_Stored.m K s5761).wp kr kp)
    (hret : ∀ (x5830 : List UInt8) (w : World), kr x5830 → St w H [] F → R (.returned (str x5830)) w) :
    Calls Tryd.prog 10 ⟨[str s5761]⟩ w R := by
 refine enter Tryd.func10 rfl Tryd.ntmps10 rfl hS fun a w hS => ?_
 have hM := hm; clear hm
 rw [deflate_Stored.m] at hM
 refine wp_seq <| wp_region_list <| st1 hS (asg rfl) rfl fun a w hS => wpList_nil <| then_n <| wp_seq <| wp_region_list <| st1 hS (asg rfl) rfl fun a w hS => ?_
 obtain ⟨f5762, hV5763, hS⟩ := hS.nilV 5 (ci .u8) 1
 refine wpList_nil <| then_n <| wp_block <| s_loopJ (fun k5803 a w => ∃ (s5797 : List UInt8) (A5798 : Option Addr) (c5799 : Nat) (b_5800 : (List Int)) (f5801 : Frag), Ss 41 [] [(0, str s5797), (3, .slice A5798 b_5800.length c5799)] H [f5801] F a w ∧ (Vec 5 (ci .u8) 1 A5798 b_5800 c5799 f5801) ∧ (deflate_Stored.l1 K k5803 s5797 b_5800).wp kr kp) K ?_ ?_ ?_
 ·exact ⟨s5761, none, 0, ([] : List Int), f5762, hS.to [0] (by kernel_rfl) ⟨rfl, rfl, trivial⟩, hV5763, hM⟩
 ·intro a w hI; obtain ⟨_, _, _, _, _, _, _, hM⟩ := hI; exact wp_fail hM
 ·intro k5803 a w hI J5829 hJ5829
  obtain ⟨s5797, A5798, c5799, b_5800, f5801, hS, hV5802, hM⟩ := hI
  rw [deflate_Stored.l1] at hM
  refine wp_block <| wp_seq <| wp_region_list <| st1 hS (mv rfl) rfl fun a w hS => st1 hS (lenS rfl Tryd.runUnderlying9) rfl fun a w hS => st1 hS (minI rfl rfl) rfl fun a w hS => st1x (v := Value.int .i64) (x0 := (if (s5797.length : Int) < (65535 : Int) then (s5797.length : Int) else (65535 : Int))) hS (asg rfl) rfl fun n_5804 a w hz hS => ?_
  have hM := lt_to hz hM; clear hz
  refine wpList_nil <| then_n <| wp_seq <| wp_region_list <| st1 hS (asg rfl) rfl fun a w hS => wpList_nil <| then_n <| seq_joinJ (fun a w => ∃ (last5806 : Int), Ss 41 [] [(0, str s5797), (3, .slice A5798 b_5800.length c5799), (4, .int .i64 n_5804), (5, .int .u8 last5806)] H [f5801] F a w ∧ (deflate_Stored.j2 K (deflate_Stored.l1 K k5803) s5797 b_5800 n_5804 last5806).wp kr kp) (fun J5807 hJ5807 => ?_) ?_
  ·refine wp_seq ?_
   refine wp_region_list <| st1 hS (mv rfl) rfl fun a w hS => st1 hS (mv rfl) rfl fun a w hS => st1 hS (lenS rfl Tryd.runUnderlying9) rfl fun a w hS => st1 hS (bin rfl rfl rfl) rfl fun a w hS => wpList_nil <| then_n <| s_cond hS rfl hM (fun hb5805 hM => ?_) (fun hb5805 hM => ?_)
   ·refine wp_region_list ?_
    refine st1 hS (asg rfl) rfl fun a w hS => wpList_nil <| then_n ?_
    exact hJ5807 _ _ ⟨(1 : Int), hS.to [0] (by kernel_rfl) ⟨rfl, rfl, rfl, rfl, trivial⟩, hM⟩
   ·refine wp_skip ?_
    refine then_n ?_
    exact hJ5807 _ _ ⟨(0 : Int), hS.to [0] (by kernel_rfl) ⟨rfl, rfl, rfl, rfl, trivial⟩, hM⟩
  ·intro a w hI
   obtain ⟨last5806, hS, hM⟩ := hI
   rw [deflate_Stored.j2] at hM
   refine wp_seq <| wp_region_list <| st1 hS (mv rfl) rfl fun a w hS => st1 hS (mv rfl) rfl fun a w hS => st1 hS (mv rfl) rfl fun a w hS => st1 hS (cvi rfl Tryd.runUnderlying3 Tryd.runUnderlying5) rfl fun a w hS => st1 hS (mv rfl) rfl fun a w hS => st1 hS (shr rfl rfl rfl) rfl fun a w hS => st1 hS (cvi rfl Tryd.runUnderlying3 Tryd.runUnderlying5) rfl fun a w hS => st1 hS (mv rfl) rfl fun a w hS => st1 hS (cvi rfl Tryd.runUnderlying3 Tryd.runUnderlying5) rfl fun a w hS => st1 hS (un rfl rfl) rfl fun a w hS => st1 hS (mv rfl) rfl fun a w hS => st1 hS (shr rfl rfl rfl) rfl fun a w hS => st1 hS (cvi rfl Tryd.runUnderlying3 Tryd.runUnderlying5) rfl fun a w hS => st1 hS (un rfl rfl) rfl fun a w hS => bsl (g := (ci .u8)) ([last5806, (wr .u8 n_5804), (wr .u8 (ishr .i64 n_5804 (8 : Int))), (inot .u8 (wr .u8 n_5804)), (inot .u8 (wr .u8 (ishr .i64 n_5804 (8 : Int))))] : List Int) [.int .u8 last5806, .int .u8 (wr .u8 n_5804), .int .u8 (wr .u8 (ishr .i64 n_5804 (8 : Int))), .int .u8 (inot .u8 (wr .u8 n_5804)), .int .u8 (inot .u8 (wr .u8 (ishr .i64 n_5804 (8 : Int))))] hS Tryd.runUnderlying38 Tryd.sizeOf5 X.el5 rfl rfl rfl (by simp [Value.cells]) rfl rfl rfl rfl rfl fun w A5808 c5809 f5810 hV5811 hS => ?_
   obtain ⟨hk5812, hM⟩ := wp_chk hM
   refine apV (ys := ([last5806, (wr .u8 n_5804), (wr .u8 (ishr .i64 n_5804 (8 : Int))), (inot .u8 (wr .u8 n_5804)), (inot .u8 (wr .u8 (ishr .i64 n_5804 (8 : Int))))] : List Int)) 1 hS rfl rfl hV5802 rfl (hV5811.rd (i := 0) rfl) Tryd.runUnderlying38 Tryd.runUnderlying38 X.el5 (fun _ => rfl) rfl one_t5 hk5812 rfl fun zs5817 w A5813 c5814 f5815 hz hV5816 hS => ?_
   have hM := lt_to hz hM; clear hz
   refine st1 hS (asg rfl) rfl fun a w hS => wpList_nil <| then_n <| wp_seq <| wp_region_list <| st1 hS (mv rfl) rfl fun a w hS => st1 hS (mv rfl) rfl fun a w hS => st1 hS (mv rfl) rfl fun a w hS => ?_
   obtain ⟨hk5818, hM⟩ := wp_chk hM
   refine st1 hS (slS rfl Tryd.runUnderlying9 lo0 (hiS rfl) hk5818) rfl fun a w hS => ?_
   obtain ⟨hk5819, hM⟩ := wp_chk hM
   refine apS 1 hS rfl rfl hV5816 rfl Tryd.runUnderlying38 Tryd.runUnderlying9 X.el5 rfl hk5819 rfl fun zs5824 w A5820 c5821 f5822 hz hV5823 hS => ?_
   have hM := lt_to hz hM; clear hz
   refine st1 hS (asg rfl) rfl fun a w hS => wpList_nil <| then_n <| wp_seq <| wp_region_list <| st1 hS (mv rfl) rfl fun a w hS => st1 hS (mv rfl) rfl fun a w hS => ?_
   obtain ⟨hk5825, hM⟩ := wp_chk hM
   refine st1 hS (slS rfl Tryd.runUnderlying9 (loS rfl) hi0 hk5825) rfl fun a w hS => st1x (v := str) (x0 := (sub s5797 n_5804 (s5797.length : Int))) hS (asg rfl) rfl fun s5826 a w hz hS => ?_
   have hM := lt_to hz hM; clear hz
   refine wpList_nil <| then_n <| wp_seq <| wp_region_list <| st1 hS (mv rfl) rfl fun a w hS => st1 hS (bin rfl rfl rfl) rfl fun a w hS => wpList_nil <| then_n <| s_cond hS rfl hM (fun hb5827 hM => ?_) (fun hb5827 hM => ?_)
   ·refine wp_seq ?_
    refine wp_region_list <| st1 hS (mv rfl) rfl fun a w hS => st1 hS (cbs rfl Tryd.runUnderlying38 Tryd.runUnderlying5 Tryd.runUnderlying9 (hV5823.rd (i := 1) rfl)) rfl fun a w hS => st1x (v := str) (x0 := (zs5824.map tob)) hS (asg rfl) rfl fun v5828 a w hz hS => ?_
    have hM := lt_to hz hM; clear hz
    refine wpList_nil <| then_n <| wp_ret <| blk_ret (then_ret (blk_ret ?_))
    exact s_ret (rs := [2]) hS rfl rfl (hret v5828 w (wp_ok hM) (hS.st.pick [] (by kernel_rfl)))
   ·refine wp_skip ?_
    refine blk_n (then_n ?_)
    exact hJ5829 _ _ ⟨s5826, A5820, c5821, zs5824, f5822, hS.to [1] (by kernel_rfl) ⟨rfl, rfl, trivial⟩, hV5823, hM⟩
end Go.TrydS
