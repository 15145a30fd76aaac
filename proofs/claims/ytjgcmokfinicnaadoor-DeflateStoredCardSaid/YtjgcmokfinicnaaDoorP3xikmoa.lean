/- Printed by a program of mine: each Go function answers what its model answers; conditions: what each theorem asks of memory. -/
import Derived.Test.YtjgcmokfinicnaaDoorP2xmhkdl
set_option linter.unusedVariables false
set_option linter.unusedSimpArgs false
set_option maxRecDepth 100000
namespace Go.TrydS
open Go Go.Sl Go.Mo Go.Proofs
attribute [local irreducible] Res.wp
theorem slices_symMergeCmpFunc_huff_packet__b6e1_b35e_cr (K : Nat) : ∀ (d : Nat) {H : Imm} {F : List Frag} {w : World} {R : Ending → World → Prop} {kr : (List T_huff_packet) → Prop} {kp : Value → Prop} (hG : Gl H) (data4416 : List T_huff_packet) (a_4424 : Int) (m4425 : Int) (b_4426 : Int) (p4417 : Frag) (A4418 : Option Addr) (c4419 : Nat) (rw4420 : List (Row 2)) (f4422 : Frag) (hr4421 : RelL (R_huff_packet p4417) data4416 rw4420) (hV4423 : Vec 112 (Row.v (sz := 2)) 2 A4418 rw4420 c4419 f4422)
    (hS : St w H [p4417, f4422] F) (hm : (slices_symMergeCmpFunc_huff_packet__b6e1_b35e.r K d data4416 a_4424 m4425 b_4426).wp kr kp)
    (hret : ∀ (rw4751 : List (Row 2)) (data4752 : (List T_huff_packet)) (f4753 : Frag) (w : World), kr data4752 → (Vec 112 (Row.v (sz := 2)) 2 A4418 rw4751 c4419 f4753) → (RelL (R_huff_packet p4417) data4752 rw4751) → (rw4751.length = rw4420.length) → St w H [p4417, f4753] F → R (.returned (.tuple ⟨[]⟩)) w),
    Calls Tryd.prog 100 ⟨[.slice A4418 rw4420.length c4419, .int .i64 a_4424, .int .i64 m4425, .int .i64 b_4426, fnv 84 [] []]⟩ w R := by
  intro d
  induction d with
  | zero => intro H F w R kr kp hG data4416 a_4424 m4425 b_4426 p4417 A4418 c4419 rw4420 f4422 hr4421 hV4423 hS hm hret; exact (wp_fail hm).elim
  | succ d ih =>
  intro H F w R kr kp hG data4416 a_4424 m4425 b_4426 p4417 A4418 c4419 rw4420 f4422 hr4421 hV4423 hS hm hret
  have hM := hm; clear hm
  rw [slices_symMergeCmpFunc_huff_packet__b6e1_b35e.r] at hM; rw [slices_symMergeCmpFunc_huff_packet__b6e1_b35e.b] at hM
  refine enter Tryd.func100 rfl Tryd.ntmps100 rfl hS fun a w hS => ?_
  have hs4427 : ∀ q ∈ p4417, q ∈ p4417 := fun _ h => h
  have hz4428 : rw4420.length = rw4420.length := rfl
  refine seq_joinJ (fun a w => Ss 220 [] [(0, .slice A4418 rw4420.length c4419), (1, .int .i64 a_4424), (2, .int .i64 m4425), (3, .int .i64 b_4426), (4, fnv 84 [] [])] H [p4417, f4422] F a w ∧ (slices_symMergeCmpFunc_huff_packet__b6e1_b35e.j4 K (slices_symMergeCmpFunc_huff_packet__b6e1_b35e.r K d) data4416 a_4424 m4425 b_4426).wp kr kp) (fun J4553 hJ4553 => ?_) ?_
  ·refine wp_seq ?_
   refine wp_region_list <| st1 hS (mv rfl) rfl fun a w hS => st1 hS (mv rfl) rfl fun a w hS => st1 hS (bin rfl rfl rfl) rfl fun a w hS => st1 hS (bin rfl rfl rfl) rfl fun a w hS => wpList_nil <| then_n <| s_cond hS rfl hM (fun hb4429 hM => ?_) (fun hb4429 hM => ?_)
   ·refine wp_seq ?_
    refine wp_region_list <| st1 hS (mv rfl) rfl fun a w hS => st1 hS (asg rfl) rfl fun a w hS => wpList_nil <| then_n <| wp_seq <| wp_region_list <| st1 hS (mv rfl) rfl fun a w hS => st1 hS (asg rfl) rfl fun a w hS => wpList_nil <| then_n <| seq_joinJ (fun a w => ∃ (i4453 : Int), Ss 220 [] [(0, .slice A4418 rw4420.length c4419), (1, .int .i64 a_4424), (10, .int .i64 i4453)] H [p4417, f4422] F a w ∧ (slices_symMergeCmpFunc_huff_packet__b6e1_b35e.j2 K (slices_symMergeCmpFunc_huff_packet__b6e1_b35e.r K d) data4416 a_4424 i4453).wp kr kp) (fun J4454 hJ4454 => ?_) ?_
    ·refine wp_block ?_
     refine s_loopJ (fun k4432 a w => ∃ (i4430 : Int) (j4431 : Int), Ss 220 [] [(0, .slice A4418 rw4420.length c4419), (1, .int .i64 a_4424), (4, fnv 84 [] []), (10, .int .i64 i4430), (11, .int .i64 j4431)] H [p4417, f4422] F a w ∧ (slices_symMergeCmpFunc_huff_packet__b6e1_b35e.l1 K (slices_symMergeCmpFunc_huff_packet__b6e1_b35e.r K d) data4416 a_4424 k4432 i4430 j4431).wp kr kp) K ?_ ?_ ?_
     ·exact ⟨m4425, b_4426, hS.to [0, 1] (by kernel_rfl) ⟨rfl, rfl, rfl, rfl, rfl, trivial⟩, hM⟩
     ·intro a w hI; obtain ⟨_, _, _, hM⟩ := hI; exact wp_fail hM
     ·intro k4432 a w hI J4452 hJ4452
      obtain ⟨i4430, j4431, hS, hM⟩ := hI
      rw [slices_symMergeCmpFunc_huff_packet__b6e1_b35e.l1] at hM
      refine wp_seq <| wp_seq <| wp_region_list <| st1 hS (mv rfl) rfl fun a w hS => st1 hS (mv rfl) rfl fun a w hS => st1 hS (bin rfl rfl rfl) rfl fun a w hS => wpList_nil <| then_n <| s_cond hS rfl hM (fun hb4433 hM => ?_) (fun hb4433 hM => ?_)
      ·refine wp_skip ?_
       refine then_n <| wp_block <| wp_seq <| wp_region_list <| st1 hS (mv rfl) rfl fun a w hS => st1 hS (mv rfl) rfl fun a w hS => st1 hS (bin rfl rfl rfl) rfl fun a w hS => st1 hS (cvi rfl Tryd.runUnderlying3 Tryd.runUnderlying39) rfl fun a w hS => st1 hS (shr rfl rfl rfl) rfl fun a w hS => st1 hS (cvi rfl Tryd.runUnderlying39 Tryd.runUnderlying3) rfl fun a w hS => st1x (v := Value.int .i64) (x0 := (wr .i64 (ishr .u64 (wr .u64 (w64 (i4430 + j4431))) (1 : Int)))) hS (asg rfl) rfl fun h4434 a w hz hS => ?_
       have hM := lt_to hz hM; clear hz
       refine wpList_nil <| then_n <| wp_seq ?_
       obtain ⟨hk4436, hM⟩ := wp_chk hM
       obtain ⟨A4437, c4438, hw4441, hp4439, hc4440⟩ := hr4421.get hk4436
       obtain ⟨hk4443, hM⟩ := wp_chk hM
       obtain ⟨A4444, c4445, hw4448, hp4446, hc4447⟩ := hr4421.get hk4443
       refine draw_begin (vals := [some (fnv 84 [] []), some (.slice A4418 rw4420.length c4419), some (.int .i64 h4434), some (slp A4418 (Int.toNat h4434 * 2)), some (.agg ⟨[.int .i64 ((rd data4416 h4434).often_), .slice A4437 ((rd data4416 h4434).symbols_).length c4438]⟩), some (.slice A4418 rw4420.length c4419), some (.int .i64 a_4424), some (slp A4418 (Int.toNat a_4424 * 2)), some (.agg ⟨[.int .i64 ((rd data4416 a_4424).often_), .slice A4444 ((rd data4416 a_4424).symbols_).length c4445]⟩), none, none]) hS mixed rfl ?_
       intro l w ho hcl hA hst
       refine phq hA hst ho hcl navail nmust 9 [0, 1, 2, 3, 4, 5, 6, 7, 8] rfl rfl rfl rfl rfl (by exact ⟨nR rfl rfl rfl rfl rfl (by exact ovE (mv rfl) rfl), nR rfl rfl rfl rfl rfl (by exact ovE (mv rfl) rfl), nR rfl rfl rfl rfl rfl (by exact ovE (mv rfl) rfl), nR rfl rfl rfl rfl rfl (by exact ovE (ixV rfl rfl Tryd.runUnderlying110 Tryd.sizeOf112 (hV4423.rd (i := 1) rfl) Row.len rfl (hr4421.inb hk4436)) rfl), nR rfl rfl rfl rfl rfl (by exact ovE (ovE (ldVA rfl (hV4423.rd (i := 1) rfl) Row.len (hr4421.inb hk4436) Tryd.isAgg112 Tryd.sizeOf112 rfl) (congrArg (fun l => Value.agg ⟨l⟩) hw4441)) rfl), nR rfl rfl rfl rfl rfl (by exact ovE (mv rfl) rfl), nR rfl rfl rfl rfl rfl (by exact ovE (mv rfl) rfl), nR rfl rfl rfl rfl rfl (by exact ovE (ixV rfl rfl Tryd.runUnderlying110 Tryd.sizeOf112 (hV4423.rd (i := 1) rfl) Row.len rfl (hr4421.inb hk4443)) rfl), nR rfl rfl rfl rfl rfl (by exact ovE (ovE (ldVA rfl (hV4423.rd (i := 1) rfl) Row.len (hr4421.inb hk4443) Tryd.isAgg112 Tryd.sizeOf112 rfl) (congrArg (fun l => Value.agg ⟨l⟩) hw4448)) rfl), trivial⟩) fun D l a w ho hcl hav hpre hm hE hk hA hst => ?_
       have hS := (Ss.mk hE hst).env2 (e' := [(40, fnv 84 [] []), (44, .agg ⟨[.int .i64 ((rd data4416 h4434).often_), .slice A4437 ((rd data4416 h4434).symbols_).length c4438]⟩), (48, .agg ⟨[.int .i64 ((rd data4416 a_4424).often_), .slice A4444 ((rd data4416 a_4424).symbols_).length c4445]⟩)]) ⟨rfl, rfl, rfl, trivial⟩
       refine op_of_nth rfl <| s_callV hS rfl rfl Tryd.call84 (huff_merged_1_c hG K (T_huff_packet.mk ((rd data4416 h4434).often_) ((rd data4416 h4434).symbols_)) (T_huff_packet.mk ((rd data4416 a_4424).often_) ((rd data4416 a_4424).symbols_)) A4437 c4438 A4444 c4445 (hp4439.rdF (i := 0) rfl) hc4440 (hp4446.rdF (i := 0) rfl) hc4447 (hS.st.part 0 [0, 1] (by kernel_rfl)) (wp_bind hM) (fun x4449 w hM  hst => s_back hS.ev hst.appF rfl fun hS => ?_))
       replace hS : Ss _ _ _ H [p4417, f4422] F _ _ := hS
       refine wpList_nil (then_n ?_)
       replace hst := hS.st
       obtain ⟨hcl, hmust, hav2, hA⟩ := dn (vals' := [some (fnv 84 [] []), some (.slice A4418 rw4420.length c4419), some (.int .i64 h4434), some (slp A4418 (Int.toNat h4434 * 2)), some (.agg ⟨[.int .i64 ((rd data4416 h4434).often_), .slice A4437 ((rd data4416 h4434).symbols_).length c4438]⟩), some (.slice A4418 rw4420.length c4419), some (.int .i64 a_4424), some (slp A4418 (Int.toNat a_4424 * 2)), some (.agg ⟨[.int .i64 ((rd data4416 a_4424).often_), .slice A4444 ((rd data4416 a_4424).symbols_).length c4445]⟩), some (.int .i64 x4449), some (.bool (decide (x4449 < (0 : Int))))]) 9 [(0, 9), (4, 9), (8, 9), (3, 4), (7, 8), (1, 3), (2, 3), (5, 7), (6, 7)] hA hcl hav hm hpre hk rfl rfl rfl rfl rfl rfl rfl
       clear hm hav
       refine phqE hA hst ho hcl hmust [10] rfl rfl rfl (by exact ⟨nR rfl rfl rfl rfl rfl (by exact ovE (bin rfl rfl rfl) rfl), trivial⟩) fun a w hS => ?_
       replace hS := hS.env2 (e' := [(0, .slice A4418 rw4420.length c4419), (1, .int .i64 a_4424), (4, fnv 84 [] []), (10, .int .i64 i4430), (11, .int .i64 j4431), (12, .int .i64 h4434), (50, .bool (decide (x4449 < (0 : Int))))]) ⟨rfl, rfl, rfl, rfl, rfl, rfl, rfl, trivial⟩
       refine then_n <| s_cond hS rfl hM (fun hb4450 hM => ?_) (fun hb4450 hM => ?_)
       ·refine wp_region_list ?_
        refine st1 hS (mv rfl) rfl fun a w hS => st1 hS (bin rfl rfl rfl) rfl fun a w hS => st1x (v := Value.int .i64) (x0 := (w64 (h4434 + (1 : Int)))) hS (asg rfl) rfl fun i4451 a w hz hS => ?_
        have hM := lt_to hz hM; clear hz
        refine wpList_nil <| blk_n (then_n ?_)
        exact hJ4452 _ _ ⟨i4451, j4431, hS.to [0, 1] (by kernel_rfl) ⟨rfl, rfl, rfl, rfl, rfl, trivial⟩, hM⟩
       ·refine wp_region_list ?_
        refine st1 hS (mv rfl) rfl fun a w hS => st1 hS (asg rfl) rfl fun a w hS => wpList_nil <| blk_n (then_n ?_)
        exact hJ4452 _ _ ⟨i4430, h4434, hS.to [0, 1] (by kernel_rfl) ⟨rfl, rfl, rfl, rfl, rfl, trivial⟩, hM⟩
      ·refine wp_exit ?_
       refine then_ex (then_ex (blk_same (then_n ?_)))
       exact hJ4454 _ _ ⟨i4430, hS.to [0, 1] (by kernel_rfl) ⟨rfl, rfl, rfl, trivial⟩, hM⟩
    ·intro a w hI
     obtain ⟨i4453, hS, hM⟩ := hI
     rw [slices_symMergeCmpFunc_huff_packet__b6e1_b35e.j2] at hM
     refine wp_seq <| wp_seq <| wp_region_list <| st1 hS (mv rfl) rfl fun a w hS => st1 hS (asg rfl) rfl fun a w hS => wpList_nil <| then_n <| wp_block <| s_loopJ (fun k4511 a w => ∃ (rw4504 : List (Row 2)) (data4505 : (List T_huff_packet)) (f4506 : Frag) (k_4510 : Int), Ss 220 [] [(0, .slice A4418 rw4504.length c4419), (10, .int .i64 i4453), (13, .int .i64 k_4510)] H [p4417, f4506] F a w ∧ (Vec 112 (Row.v (sz := 2)) 2 A4418 rw4504 c4419 f4506) ∧ (RelL (R_huff_packet p4417) data4505 rw4504) ∧ (rw4504.length = rw4420.length) ∧ (slices_symMergeCmpFunc_huff_packet__b6e1_b35e.l3 K (slices_symMergeCmpFunc_huff_packet__b6e1_b35e.r K d) i4453 k4511 data4505 k_4510).wp kr kp) K ?_ ?_ ?_
     ·exact ⟨rw4420, data4416, f4422, a_4424, hS.to [0, 1] (by kernel_rfl) ⟨rfl, rfl, rfl, trivial⟩, hV4423, hr4421, hz4428, hM⟩
     ·intro a w hI; obtain ⟨_, _, _, _, _, _, _, _, hM⟩ := hI; exact wp_fail hM
     ·intro k4511 a w hI J4552 hJ4552
      obtain ⟨rw4504, data4505, f4506, k_4510, hS, hV4507, hr4508, hz4509, hM⟩ := hI
      rw [slices_symMergeCmpFunc_huff_packet__b6e1_b35e.l3] at hM
      refine wp_seq <| wp_seq <| wp_region_list <| st1 hS (mv rfl) rfl fun a w hS => st1 hS (mv rfl) rfl fun a w hS => st1 hS (bin rfl rfl rfl) rfl fun a w hS => st1 hS (bin rfl rfl rfl) rfl fun a w hS => wpList_nil <| then_n <| s_cond hS rfl hM (fun hb4512 hM => ?_) (fun hb4512 hM => ?_)
      ·refine wp_skip ?_
       refine then_n <| wp_seq <| wp_block ?_
       obtain ⟨hk4514, hM⟩ := wp_chk hM
       obtain ⟨A4515, c4516, hw4519, hp4517, hc4518⟩ := hr4508.get hk4514
       obtain ⟨hk4521, hM⟩ := wp_chk hM
       obtain ⟨A4522, c4523, hw4526, hp4524, hc4525⟩ := hr4508.get hk4521
       refine draw_begin (vals := [some (.slice A4418 rw4504.length c4419), some (.int .i64 k_4510), some (.slice A4418 rw4504.length c4419), some (.int .i64 k_4510), some (.int .i64 (w64 (k_4510 + (1 : Int)))), some (.slice A4418 rw4504.length c4419), some (.int .i64 k_4510), some (.int .i64 (w64 (k_4510 + (1 : Int)))), some (slp A4418 (Int.toNat (w64 (k_4510 + (1 : Int))) * 2)), some (.agg ⟨[.int .i64 ((rd data4505 (w64 (k_4510 + (1 : Int)))).often_), .slice A4515 ((rd data4505 (w64 (k_4510 + (1 : Int)))).symbols_).length c4516]⟩), some (.slice A4418 rw4504.length c4419), some (.int .i64 k_4510), some (slp A4418 (Int.toNat k_4510 * 2)), some (.agg ⟨[.int .i64 ((rd data4505 k_4510).often_), .slice A4522 ((rd data4505 k_4510).symbols_).length c4523]⟩), some (slp A4418 (Int.toNat k_4510 * 2)), none, none, none]) hS mixed rfl ?_
       intro l w ho hcl hA hst
       refine phq hA hst ho hcl navail nmust 15 [0, 1, 2, 3, 4, 5, 6, 7, 8, 9, 10, 11, 12, 13, 14] rfl rfl rfl rfl rfl (by exact ⟨nR rfl rfl rfl rfl rfl (by exact ovE (mv rfl) rfl), nR rfl rfl rfl rfl rfl (by exact ovE (mv rfl) rfl), nR rfl rfl rfl rfl rfl (by exact ovE (mv rfl) rfl), nR rfl rfl rfl rfl rfl (by exact ovE (mv rfl) rfl), nR rfl rfl rfl rfl rfl (by exact ovE (bin rfl rfl rfl) rfl), nR rfl rfl rfl rfl rfl (by exact ovE (mv rfl) rfl), nR rfl rfl rfl rfl rfl (by exact ovE (mv rfl) rfl), nR rfl rfl rfl rfl rfl (by exact ovE (bin rfl rfl rfl) rfl), nR rfl rfl rfl rfl rfl (by exact ovE (ixV rfl rfl Tryd.runUnderlying110 Tryd.sizeOf112 (hV4507.rd (i := 1) rfl) Row.len rfl (hr4508.inb hk4514)) rfl), nR rfl rfl rfl rfl rfl (by exact ovE (ovE (ldVA rfl (hV4507.rd (i := 1) rfl) Row.len (hr4508.inb hk4514) Tryd.isAgg112 Tryd.sizeOf112 rfl) (congrArg (fun l => Value.agg ⟨l⟩) hw4519)) rfl), nR rfl rfl rfl rfl rfl (by exact ovE (mv rfl) rfl), nR rfl rfl rfl rfl rfl (by exact ovE (mv rfl) rfl), nR rfl rfl rfl rfl rfl (by exact ovE (ixV rfl rfl Tryd.runUnderlying110 Tryd.sizeOf112 (hV4507.rd (i := 1) rfl) Row.len rfl (hr4508.inb hk4521)) rfl), nR rfl rfl rfl rfl rfl (by exact ovE (ovE (ldVA rfl (hV4507.rd (i := 1) rfl) Row.len (hr4508.inb hk4521) Tryd.isAgg112 Tryd.sizeOf112 rfl) (congrArg (fun l => Value.agg ⟨l⟩) hw4526)) rfl), nR rfl rfl rfl rfl rfl (by exact ovE (ixV rfl rfl Tryd.runUnderlying110 Tryd.sizeOf112 (hV4507.rd (i := 1) rfl) Row.len rfl (hr4508.inb hk4521)) rfl), trivial⟩) fun D l a w ho hcl hav hpre hm hE hk hA hst => ?_
       have hS := (Ss.mk hE hst).env2 (e' := [(70, .agg ⟨[.int .i64 ((rd data4505 (w64 (k_4510 + (1 : Int)))).often_), .slice A4515 ((rd data4505 (w64 (k_4510 + (1 : Int)))).symbols_).length c4516]⟩), (75, slp A4418 (Int.toNat k_4510 * 2))]) ⟨rfl, rfl, trivial⟩
       refine op_of_nth rfl <| stVR (i := k_4510) (sz := 2) 1 (⟨[.int .i64 ((rd data4505 (w64 (k_4510 + (1 : Int)))).often_), .slice A4515 ((rd data4505 (w64 (k_4510 + (1 : Int)))).symbols_).length c4516], by simp, by simp [Value.oneCell']⟩ : Row 2) hS rfl rfl hV4507 rfl Tryd.sizeOf112 rfl (hr4508.inb hk4521) fun rw4533 w f4531 hz hV4532 hS => ?_
       obtain ⟨zs4534, hzm⟩ := nameE (data4505.set (Int.toNat k_4510) (T_huff_packet.mk ((rd data4505 (w64 (k_4510 + (1 : Int)))).often_) ((rd data4505 (w64 (k_4510 + (1 : Int)))).symbols_)))
       replace hM := lt_to hzm hM
       have hr4535 := RelL.set (x := (T_huff_packet.mk ((rd data4505 (w64 (k_4510 + (1 : Int)))).often_) ((rd data4505 (w64 (k_4510 + (1 : Int)))).symbols_))) (r := (⟨[.int .i64 ((rd data4505 (w64 (k_4510 + (1 : Int)))).often_), .slice A4515 ((rd data4505 (w64 (k_4510 + (1 : Int)))).symbols_).length c4516], by simp, by simp [Value.oneCell']⟩ : Row 2)) (Int.toNat k_4510) hr4508 (show R_huff_packet p4417 _ _ from ⟨A4515, c4516, rfl, hp4517, hc4518⟩)
       have hz4536 : rw4533.length = rw4504.length := by rw [hz]; exact List.length_set ..
       rw [← hz, ← hzm] at hr4535; clear hz hzm
       have hz4537 := Eq.trans hz4536 hz4509
       refine wpList_nil (then_n ?_)
       replace hst := hS.st
       obtain ⟨hk4539, hM⟩ := wp_chk hM
       obtain ⟨hcl, hmust, hav2, hA⟩ := dnN (vals' := [some (.slice A4418 rw4504.length c4419), some (.int .i64 k_4510), some (.slice A4418 rw4504.length c4419), some (.int .i64 k_4510), some (.int .i64 (w64 (k_4510 + (1 : Int)))), some (.slice A4418 rw4504.length c4419), some (.int .i64 k_4510), some (.int .i64 (w64 (k_4510 + (1 : Int)))), some (slp A4418 (Int.toNat (w64 (k_4510 + (1 : Int))) * 2)), some (.agg ⟨[.int .i64 ((rd data4505 (w64 (k_4510 + (1 : Int)))).often_), .slice A4515 ((rd data4505 (w64 (k_4510 + (1 : Int)))).symbols_).length c4516]⟩), some (.slice A4418 rw4504.length c4419), some (.int .i64 k_4510), some (slp A4418 (Int.toNat k_4510 * 2)), some (.agg ⟨[.int .i64 ((rd data4505 k_4510).often_), .slice A4522 ((rd data4505 k_4510).symbols_).length c4523]⟩), some (slp A4418 (Int.toNat k_4510 * 2)), some undef, some (slp A4418 (Int.toNat (w64 (k_4510 + (1 : Int))) * 2)), none]) 15 [(0, 15), (1, 15), (5, 15), (6, 15), (7, 15), (8, 15), (9, 15), (13, 15), (14, 15), (12, 13), (10, 12), (11, 12)] hA hcl hav hm hpre rfl rfl rfl rfl rfl
       clear hm hav
       refine phq hA hst ho hcl hav2 hmust 17 [2, 3, 4, 16] rfl rfl rfl rfl rfl (by exact ⟨nR rfl rfl rfl rfl rfl (by exact ovE (mv rfl) rfl), nR rfl rfl rfl rfl rfl (by exact ovE (mv rfl) rfl), nR rfl rfl rfl rfl rfl (by exact ovE (bin rfl rfl rfl) rfl), nR rfl rfl rfl rfl rfl (by exact ovE (ixV (lenx hz4536 rfl) rfl Tryd.runUnderlying110 Tryd.sizeOf112 (hV4532.rd (i := 1) rfl) Row.len rfl (hr4535.inb hk4539)) rfl), trivial⟩) fun D l a w ho hcl hav hpre hm hE hk hA hst => ?_
       have hS := (Ss.mk hE hst).env2 (e' := [(74, .agg ⟨[.int .i64 ((rd data4505 k_4510).often_), .slice A4522 ((rd data4505 k_4510).symbols_).length c4523]⟩), (76, slp A4418 (Int.toNat (w64 (k_4510 + (1 : Int))) * 2))]) ⟨rfl, rfl, trivial⟩
       refine op_of_nth rfl <| stVR (i := (w64 (k_4510 + (1 : Int)))) (sz := 2) 1 (⟨[.int .i64 ((rd data4505 k_4510).often_), .slice A4522 ((rd data4505 k_4510).symbols_).length c4523], by simp, by simp [Value.oneCell']⟩ : Row 2) hS rfl rfl hV4532 rfl Tryd.sizeOf112 rfl (hr4535.inb hk4539) fun rw4546 w f4544 hz hV4545 hS => ?_
       obtain ⟨zs4547, hzm⟩ := nameE (zs4534.set (Int.toNat (w64 (k_4510 + (1 : Int)))) (T_huff_packet.mk ((rd data4505 k_4510).often_) ((rd data4505 k_4510).symbols_)))
       replace hM := lt_to hzm hM
       have hr4548 := RelL.set (x := (T_huff_packet.mk ((rd data4505 k_4510).often_) ((rd data4505 k_4510).symbols_))) (r := (⟨[.int .i64 ((rd data4505 k_4510).often_), .slice A4522 ((rd data4505 k_4510).symbols_).length c4523], by simp, by simp [Value.oneCell']⟩ : Row 2)) (Int.toNat (w64 (k_4510 + (1 : Int)))) hr4535 (show R_huff_packet p4417 _ _ from ⟨A4522, c4523, rfl, hp4524, hc4525⟩)
       have hz4549 : rw4546.length = rw4533.length := by rw [hz]; exact List.length_set ..
       rw [← hz, ← hzm] at hr4548; clear hz hzm
       have hz4550 := Eq.trans hz4549 hz4537
       refine wpList_nil (then_n ?_)
       replace hst := hS.st
       obtain ⟨hcl, hmust, hav2, hA⟩ := dnN (vals' := [some (.slice A4418 rw4504.length c4419), some (.int .i64 k_4510), some (.slice A4418 rw4504.length c4419), some (.int .i64 k_4510), some (.int .i64 (w64 (k_4510 + (1 : Int)))), some (.slice A4418 rw4504.length c4419), some (.int .i64 k_4510), some (.int .i64 (w64 (k_4510 + (1 : Int)))), some (slp A4418 (Int.toNat (w64 (k_4510 + (1 : Int))) * 2)), some (.agg ⟨[.int .i64 ((rd data4505 (w64 (k_4510 + (1 : Int)))).often_), .slice A4515 ((rd data4505 (w64 (k_4510 + (1 : Int)))).symbols_).length c4516]⟩), some (.slice A4418 rw4504.length c4419), some (.int .i64 k_4510), some (slp A4418 (Int.toNat k_4510 * 2)), some (.agg ⟨[.int .i64 ((rd data4505 k_4510).often_), .slice A4522 ((rd data4505 k_4510).symbols_).length c4523]⟩), some (slp A4418 (Int.toNat k_4510 * 2)), some undef, some (slp A4418 (Int.toNat (w64 (k_4510 + (1 : Int))) * 2)), some undef]) 17 [(0, 17), (1, 17), (2, 17), (3, 17), (4, 17), (5, 17), (6, 17), (7, 17), (8, 17), (9, 17), (10, 17), (11, 17), (12, 17), (13, 17), (14, 17), (15, 17), (16, 17)] hA hcl hav hm hpre rfl rfl rfl rfl rfl
       clear hm hav
       refine phqE hA hst ho hcl hmust [] rfl rfl rfl trivial fun a w hS => ?_
       replace hS := hS.env2 (e' := [(0, .slice A4418 rw4546.length c4419), (10, .int .i64 i4453), (13, .int .i64 k_4510)]) ⟨(relk (u := .slice A4418 rw4504.length c4419) rfl (by rw [hz4549, hz4536])), rfl, rfl, trivial⟩
       refine blk_n (then_n ?_)
       refine wp_region_list <| st1 hS (mv rfl) rfl fun a w hS => st1 hS (bin rfl rfl rfl) rfl fun a w hS => st1x (v := Value.int .i64) (x0 := (w64 (k_4510 + (1 : Int)))) hS (asg rfl) rfl fun k_4551 a w hz hS => ?_
       have hM := lt_to hz hM; clear hz
       refine wpList_nil <| then_n ?_
       exact hJ4552 _ _ ⟨rw4546, zs4547, f4544, k_4551, hS.to [0, 1] (by kernel_rfl) ⟨rfl, rfl, rfl, trivial⟩, hV4545, hr4548, hz4550, hM⟩
      ·refine wp_exit ?_
       refine then_ex (then_ex (blk_same (then_n ?_)))
       refine wp_ret <| then_ret ?_
       exact s_ret (rs := []) hS rfl rfl (hret rw4504 data4505 f4506 w (wp_ok hM) hV4507 hr4508 hz4509 (hS.st.pick [0, 1] (by kernel_rfl)))
   ·refine wp_skip ?_
    refine then_n ?_
    exact hJ4553 _ _ ⟨hS.to [0, 1] (by kernel_rfl) ⟨rfl, rfl, rfl, rfl, rfl, trivial⟩, hM⟩
  ·intro a w hI
   obtain ⟨hS, hM⟩ := hI
   rw [slices_symMergeCmpFunc_huff_packet__b6e1_b35e.j4] at hM
   refine seq_joinJ (fun a w => Ss 220 [] [(0, .slice A4418 rw4420.length c4419), (1, .int .i64 a_4424), (2, .int .i64 m4425), (3, .int .i64 b_4426), (4, fnv 84 [] [])] H [p4417, f4422] F a w ∧ (slices_symMergeCmpFunc_huff_packet__b6e1_b35e.j8 K (slices_symMergeCmpFunc_huff_packet__b6e1_b35e.r K d) data4416 a_4424 m4425 b_4426).wp kr kp) (fun J4678 hJ4678 => ?_) ?_
   ·refine wp_seq ?_
    refine wp_region_list <| st1 hS (mv rfl) rfl fun a w hS => st1 hS (mv rfl) rfl fun a w hS => st1 hS (bin rfl rfl rfl) rfl fun a w hS => st1 hS (bin rfl rfl rfl) rfl fun a w hS => wpList_nil <| then_n <| s_cond hS rfl hM (fun hb4554 hM => ?_) (fun hb4554 hM => ?_)
    ·refine wp_seq ?_
     refine wp_region_list <| st1 hS (mv rfl) rfl fun a w hS => st1 hS (asg rfl) rfl fun a w hS => wpList_nil <| then_n <| wp_seq <| wp_region_list <| st1 hS (mv rfl) rfl fun a w hS => st1 hS (asg rfl) rfl fun a w hS => wpList_nil <| then_n <| seq_joinJ (fun a w => ∃ (i4578 : Int), Ss 220 [] [(0, .slice A4418 rw4420.length c4419), (2, .int .i64 m4425), (14, .int .i64 i4578)] H [p4417, f4422] F a w ∧ (slices_symMergeCmpFunc_huff_packet__b6e1_b35e.j6 K (slices_symMergeCmpFunc_huff_packet__b6e1_b35e.r K d) data4416 m4425 i4578).wp kr kp) (fun J4579 hJ4579 => ?_) ?_
     ·refine wp_block ?_
      refine s_loopJ (fun k4557 a w => ∃ (i4555 : Int) (j4556 : Int), Ss 220 [] [(0, .slice A4418 rw4420.length c4419), (2, .int .i64 m4425), (4, fnv 84 [] []), (14, .int .i64 i4555), (15, .int .i64 j4556)] H [p4417, f4422] F a w ∧ (slices_symMergeCmpFunc_huff_packet__b6e1_b35e.l5 K (slices_symMergeCmpFunc_huff_packet__b6e1_b35e.r K d) data4416 m4425 k4557 i4555 j4556).wp kr kp) K ?_ ?_ ?_
      ·exact ⟨a_4424, m4425, hS.to [0, 1] (by kernel_rfl) ⟨rfl, rfl, rfl, rfl, rfl, trivial⟩, hM⟩
      ·intro a w hI; obtain ⟨_, _, _, hM⟩ := hI; exact wp_fail hM
      ·intro k4557 a w hI J4577 hJ4577
       obtain ⟨i4555, j4556, hS, hM⟩ := hI
       rw [slices_symMergeCmpFunc_huff_packet__b6e1_b35e.l5] at hM
       refine wp_seq <| wp_seq <| wp_region_list <| st1 hS (mv rfl) rfl fun a w hS => st1 hS (mv rfl) rfl fun a w hS => st1 hS (bin rfl rfl rfl) rfl fun a w hS => wpList_nil <| then_n <| s_cond hS rfl hM (fun hb4558 hM => ?_) (fun hb4558 hM => ?_)
       ·refine wp_skip ?_
        refine then_n <| wp_block <| wp_seq <| wp_region_list <| st1 hS (mv rfl) rfl fun a w hS => st1 hS (mv rfl) rfl fun a w hS => st1 hS (bin rfl rfl rfl) rfl fun a w hS => st1 hS (cvi rfl Tryd.runUnderlying3 Tryd.runUnderlying39) rfl fun a w hS => st1 hS (shr rfl rfl rfl) rfl fun a w hS => st1 hS (cvi rfl Tryd.runUnderlying39 Tryd.runUnderlying3) rfl fun a w hS => st1x (v := Value.int .i64) (x0 := (wr .i64 (ishr .u64 (wr .u64 (w64 (i4555 + j4556))) (1 : Int)))) hS (asg rfl) rfl fun h4559 a w hz hS => ?_
        have hM := lt_to hz hM; clear hz
        refine wpList_nil <| then_n <| wp_seq ?_
        obtain ⟨hk4561, hM⟩ := wp_chk hM
        obtain ⟨A4562, c4563, hw4566, hp4564, hc4565⟩ := hr4421.get hk4561
        obtain ⟨hk4568, hM⟩ := wp_chk hM
        obtain ⟨A4569, c4570, hw4573, hp4571, hc4572⟩ := hr4421.get hk4568
        refine draw_begin (vals := [some (fnv 84 [] []), some (.slice A4418 rw4420.length c4419), some (.int .i64 m4425), some (slp A4418 (Int.toNat m4425 * 2)), some (.agg ⟨[.int .i64 ((rd data4416 m4425).often_), .slice A4562 ((rd data4416 m4425).symbols_).length c4563]⟩), some (.slice A4418 rw4420.length c4419), some (.int .i64 h4559), some (slp A4418 (Int.toNat h4559 * 2)), some (.agg ⟨[.int .i64 ((rd data4416 h4559).often_), .slice A4569 ((rd data4416 h4559).symbols_).length c4570]⟩), none, none, none]) hS mixed rfl ?_
        intro l w ho hcl hA hst
        refine phq hA hst ho hcl navail nmust 9 [0, 1, 2, 3, 4, 5, 6, 7, 8] rfl rfl rfl rfl rfl (by exact ⟨nR rfl rfl rfl rfl rfl (by exact ovE (mv rfl) rfl), nR rfl rfl rfl rfl rfl (by exact ovE (mv rfl) rfl), nR rfl rfl rfl rfl rfl (by exact ovE (mv rfl) rfl), nR rfl rfl rfl rfl rfl (by exact ovE (ixV rfl rfl Tryd.runUnderlying110 Tryd.sizeOf112 (hV4423.rd (i := 1) rfl) Row.len rfl (hr4421.inb hk4561)) rfl), nR rfl rfl rfl rfl rfl (by exact ovE (ovE (ldVA rfl (hV4423.rd (i := 1) rfl) Row.len (hr4421.inb hk4561) Tryd.isAgg112 Tryd.sizeOf112 rfl) (congrArg (fun l => Value.agg ⟨l⟩) hw4566)) rfl), nR rfl rfl rfl rfl rfl (by exact ovE (mv rfl) rfl), nR rfl rfl rfl rfl rfl (by exact ovE (mv rfl) rfl), nR rfl rfl rfl rfl rfl (by exact ovE (ixV rfl rfl Tryd.runUnderlying110 Tryd.sizeOf112 (hV4423.rd (i := 1) rfl) Row.len rfl (hr4421.inb hk4568)) rfl), nR rfl rfl rfl rfl rfl (by exact ovE (ovE (ldVA rfl (hV4423.rd (i := 1) rfl) Row.len (hr4421.inb hk4568) Tryd.isAgg112 Tryd.sizeOf112 rfl) (congrArg (fun l => Value.agg ⟨l⟩) hw4573)) rfl), trivial⟩) fun D l a w ho hcl hav hpre hm hE hk hA hst => ?_
        have hS := (Ss.mk hE hst).env2 (e' := [(92, fnv 84 [] []), (96, .agg ⟨[.int .i64 ((rd data4416 m4425).often_), .slice A4562 ((rd data4416 m4425).symbols_).length c4563]⟩), (100, .agg ⟨[.int .i64 ((rd data4416 h4559).often_), .slice A4569 ((rd data4416 h4559).symbols_).length c4570]⟩)]) ⟨rfl, rfl, rfl, trivial⟩
        refine op_of_nth rfl <| s_callV hS rfl rfl Tryd.call84 (huff_merged_1_c hG K (T_huff_packet.mk ((rd data4416 m4425).often_) ((rd data4416 m4425).symbols_)) (T_huff_packet.mk ((rd data4416 h4559).often_) ((rd data4416 h4559).symbols_)) A4562 c4563 A4569 c4570 (hp4564.rdF (i := 0) rfl) hc4565 (hp4571.rdF (i := 0) rfl) hc4572 (hS.st.part 0 [0, 1] (by kernel_rfl)) (wp_bind hM) (fun x4574 w hM  hst => s_back hS.ev hst.appF rfl fun hS => ?_))
        replace hS : Ss _ _ _ H [p4417, f4422] F _ _ := hS
        refine wpList_nil (then_n ?_)
        replace hst := hS.st
        obtain ⟨hcl, hmust, hav2, hA⟩ := dn (vals' := [some (fnv 84 [] []), some (.slice A4418 rw4420.length c4419), some (.int .i64 m4425), some (slp A4418 (Int.toNat m4425 * 2)), some (.agg ⟨[.int .i64 ((rd data4416 m4425).often_), .slice A4562 ((rd data4416 m4425).symbols_).length c4563]⟩), some (.slice A4418 rw4420.length c4419), some (.int .i64 h4559), some (slp A4418 (Int.toNat h4559 * 2)), some (.agg ⟨[.int .i64 ((rd data4416 h4559).often_), .slice A4569 ((rd data4416 h4559).symbols_).length c4570]⟩), some (.int .i64 x4574), some (.bool (decide (x4574 < (0 : Int)))), some (.bool (!(decide (x4574 < (0 : Int)))))]) 9 [(0, 9), (4, 9), (8, 9), (3, 4), (7, 8), (1, 3), (2, 3), (5, 7), (6, 7)] hA hcl hav hm hpre hk rfl rfl rfl rfl rfl rfl rfl
        clear hm hav
        refine phqE hA hst ho hcl hmust [10, 11] rfl rfl rfl (by exact ⟨nR rfl rfl rfl rfl rfl (by exact ovE (bin rfl rfl rfl) rfl), nR rfl rfl rfl rfl rfl (by exact ovE (un rfl rfl) rfl), trivial⟩) fun a w hS => ?_
        replace hS := hS.env2 (e' := [(0, .slice A4418 rw4420.length c4419), (2, .int .i64 m4425), (4, fnv 84 [] []), (14, .int .i64 i4555), (15, .int .i64 j4556), (16, .int .i64 h4559), (103, .bool (!(decide (x4574 < (0 : Int)))))]) ⟨rfl, rfl, rfl, rfl, rfl, rfl, rfl, trivial⟩
        refine then_n <| s_cond hS rfl hM (fun hb4575 hM => ?_) (fun hb4575 hM => ?_)
        ·refine wp_region_list ?_
         refine st1 hS (mv rfl) rfl fun a w hS => st1 hS (bin rfl rfl rfl) rfl fun a w hS => st1x (v := Value.int .i64) (x0 := (w64 (h4559 + (1 : Int)))) hS (asg rfl) rfl fun i4576 a w hz hS => ?_
         have hM := lt_to hz hM; clear hz
         refine wpList_nil <| blk_n (then_n ?_)
         exact hJ4577 _ _ ⟨i4576, j4556, hS.to [0, 1] (by kernel_rfl) ⟨rfl, rfl, rfl, rfl, rfl, trivial⟩, hM⟩
        ·refine wp_region_list ?_
         refine st1 hS (mv rfl) rfl fun a w hS => st1 hS (asg rfl) rfl fun a w hS => wpList_nil <| blk_n (then_n ?_)
         exact hJ4577 _ _ ⟨i4555, h4559, hS.to [0, 1] (by kernel_rfl) ⟨rfl, rfl, rfl, rfl, rfl, trivial⟩, hM⟩
       ·refine wp_exit ?_
        refine then_ex (then_ex (blk_same (then_n ?_)))
        exact hJ4579 _ _ ⟨i4555, hS.to [0, 1] (by kernel_rfl) ⟨rfl, rfl, rfl, trivial⟩, hM⟩
     ·intro a w hI
      obtain ⟨i4578, hS, hM⟩ := hI
      rw [slices_symMergeCmpFunc_huff_packet__b6e1_b35e.j6] at hM
      refine wp_seq <| wp_seq <| wp_region_list <| st1 hS (mv rfl) rfl fun a w hS => st1 hS (asg rfl) rfl fun a w hS => wpList_nil <| then_n <| wp_block <| s_loopJ (fun k4636 a w => ∃ (rw4629 : List (Row 2)) (data4630 : (List T_huff_packet)) (f4631 : Frag) (k_4635 : Int), Ss 220 [] [(0, .slice A4418 rw4629.length c4419), (14, .int .i64 i4578), (17, .int .i64 k_4635)] H [p4417, f4631] F a w ∧ (Vec 112 (Row.v (sz := 2)) 2 A4418 rw4629 c4419 f4631) ∧ (RelL (R_huff_packet p4417) data4630 rw4629) ∧ (rw4629.length = rw4420.length) ∧ (slices_symMergeCmpFunc_huff_packet__b6e1_b35e.l7 K (slices_symMergeCmpFunc_huff_packet__b6e1_b35e.r K d) i4578 k4636 data4630 k_4635).wp kr kp) K ?_ ?_ ?_
      ·exact ⟨rw4420, data4416, f4422, m4425, hS.to [0, 1] (by kernel_rfl) ⟨rfl, rfl, rfl, trivial⟩, hV4423, hr4421, hz4428, hM⟩
      ·intro a w hI; obtain ⟨_, _, _, _, _, _, _, _, hM⟩ := hI; exact wp_fail hM
      ·intro k4636 a w hI J4677 hJ4677
       obtain ⟨rw4629, data4630, f4631, k_4635, hS, hV4632, hr4633, hz4634, hM⟩ := hI
       rw [slices_symMergeCmpFunc_huff_packet__b6e1_b35e.l7] at hM
       refine wp_seq <| wp_seq <| wp_region_list <| st1 hS (mv rfl) rfl fun a w hS => st1 hS (mv rfl) rfl fun a w hS => st1 hS (bin rfl rfl rfl) rfl fun a w hS => wpList_nil <| then_n <| s_cond hS rfl hM (fun hb4637 hM => ?_) (fun hb4637 hM => ?_)
       ·refine wp_skip ?_
        refine then_n <| wp_seq <| wp_block ?_
        obtain ⟨hk4639, hM⟩ := wp_chk hM
        obtain ⟨A4640, c4641, hw4644, hp4642, hc4643⟩ := hr4633.get hk4639
        obtain ⟨hk4646, hM⟩ := wp_chk hM
        obtain ⟨A4647, c4648, hw4651, hp4649, hc4650⟩ := hr4633.get hk4646
        refine draw_begin (vals := [some (.slice A4418 rw4629.length c4419), some (.int .i64 k_4635), some (.slice A4418 rw4629.length c4419), some (.int .i64 k_4635), some (.int .i64 (w64 (k_4635 - (1 : Int)))), some (.slice A4418 rw4629.length c4419), some (.int .i64 k_4635), some (.int .i64 (w64 (k_4635 - (1 : Int)))), some (slp A4418 (Int.toNat (w64 (k_4635 - (1 : Int))) * 2)), some (.agg ⟨[.int .i64 ((rd data4630 (w64 (k_4635 - (1 : Int)))).often_), .slice A4640 ((rd data4630 (w64 (k_4635 - (1 : Int)))).symbols_).length c4641]⟩), some (.slice A4418 rw4629.length c4419), some (.int .i64 k_4635), some (slp A4418 (Int.toNat k_4635 * 2)), some (.agg ⟨[.int .i64 ((rd data4630 k_4635).often_), .slice A4647 ((rd data4630 k_4635).symbols_).length c4648]⟩), some (slp A4418 (Int.toNat k_4635 * 2)), none, none, none]) hS mixed rfl ?_
        intro l w ho hcl hA hst
        refine phq hA hst ho hcl navail nmust 15 [0, 1, 2, 3, 4, 5, 6, 7, 8, 9, 10, 11, 12, 13, 14] rfl rfl rfl rfl rfl (by exact ⟨nR rfl rfl rfl rfl rfl (by exact ovE (mv rfl) rfl), nR rfl rfl rfl rfl rfl (by exact ovE (mv rfl) rfl), nR rfl rfl rfl rfl rfl (by exact ovE (mv rfl) rfl), nR rfl rfl rfl rfl rfl (by exact ovE (mv rfl) rfl), nR rfl rfl rfl rfl rfl (by exact ovE (bin rfl rfl rfl) rfl), nR rfl rfl rfl rfl rfl (by exact ovE (mv rfl) rfl), nR rfl rfl rfl rfl rfl (by exact ovE (mv rfl) rfl), nR rfl rfl rfl rfl rfl (by exact ovE (bin rfl rfl rfl) rfl), nR rfl rfl rfl rfl rfl (by exact ovE (ixV rfl rfl Tryd.runUnderlying110 Tryd.sizeOf112 (hV4632.rd (i := 1) rfl) Row.len rfl (hr4633.inb hk4639)) rfl), nR rfl rfl rfl rfl rfl (by exact ovE (ovE (ldVA rfl (hV4632.rd (i := 1) rfl) Row.len (hr4633.inb hk4639) Tryd.isAgg112 Tryd.sizeOf112 rfl) (congrArg (fun l => Value.agg ⟨l⟩) hw4644)) rfl), nR rfl rfl rfl rfl rfl (by exact ovE (mv rfl) rfl), nR rfl rfl rfl rfl rfl (by exact ovE (mv rfl) rfl), nR rfl rfl rfl rfl rfl (by exact ovE (ixV rfl rfl Tryd.runUnderlying110 Tryd.sizeOf112 (hV4632.rd (i := 1) rfl) Row.len rfl (hr4633.inb hk4646)) rfl), nR rfl rfl rfl rfl rfl (by exact ovE (ovE (ldVA rfl (hV4632.rd (i := 1) rfl) Row.len (hr4633.inb hk4646) Tryd.isAgg112 Tryd.sizeOf112 rfl) (congrArg (fun l => Value.agg ⟨l⟩) hw4651)) rfl), nR rfl rfl rfl rfl rfl (by exact ovE (ixV rfl rfl Tryd.runUnderlying110 Tryd.sizeOf112 (hV4632.rd (i := 1) rfl) Row.len rfl (hr4633.inb hk4646)) rfl), trivial⟩) fun D l a w ho hcl hav hpre hm hE hk hA hst => ?_
        have hS := (Ss.mk hE hst).env2 (e' := [(122, .agg ⟨[.int .i64 ((rd data4630 (w64 (k_4635 - (1 : Int)))).often_), .slice A4640 ((rd data4630 (w64 (k_4635 - (1 : Int)))).symbols_).length c4641]⟩), (127, slp A4418 (Int.toNat k_4635 * 2))]) ⟨rfl, rfl, trivial⟩
        refine op_of_nth rfl <| stVR (i := k_4635) (sz := 2) 1 (⟨[.int .i64 ((rd data4630 (w64 (k_4635 - (1 : Int)))).often_), .slice A4640 ((rd data4630 (w64 (k_4635 - (1 : Int)))).symbols_).length c4641], by simp, by simp [Value.oneCell']⟩ : Row 2) hS rfl rfl hV4632 rfl Tryd.sizeOf112 rfl (hr4633.inb hk4646) fun rw4658 w f4656 hz hV4657 hS => ?_
        obtain ⟨zs4659, hzm⟩ := nameE (data4630.set (Int.toNat k_4635) (T_huff_packet.mk ((rd data4630 (w64 (k_4635 - (1 : Int)))).often_) ((rd data4630 (w64 (k_4635 - (1 : Int)))).symbols_)))
        replace hM := lt_to hzm hM
        have hr4660 := RelL.set (x := (T_huff_packet.mk ((rd data4630 (w64 (k_4635 - (1 : Int)))).often_) ((rd data4630 (w64 (k_4635 - (1 : Int)))).symbols_))) (r := (⟨[.int .i64 ((rd data4630 (w64 (k_4635 - (1 : Int)))).often_), .slice A4640 ((rd data4630 (w64 (k_4635 - (1 : Int)))).symbols_).length c4641], by simp, by simp [Value.oneCell']⟩ : Row 2)) (Int.toNat k_4635) hr4633 (show R_huff_packet p4417 _ _ from ⟨A4640, c4641, rfl, hp4642, hc4643⟩)
        have hz4661 : rw4658.length = rw4629.length := by rw [hz]; exact List.length_set ..
        rw [← hz, ← hzm] at hr4660; clear hz hzm
        have hz4662 := Eq.trans hz4661 hz4634
        refine wpList_nil (then_n ?_)
        replace hst := hS.st
        obtain ⟨hk4664, hM⟩ := wp_chk hM
        obtain ⟨hcl, hmust, hav2, hA⟩ := dnN (vals' := [some (.slice A4418 rw4629.length c4419), some (.int .i64 k_4635), some (.slice A4418 rw4629.length c4419), some (.int .i64 k_4635), some (.int .i64 (w64 (k_4635 - (1 : Int)))), some (.slice A4418 rw4629.length c4419), some (.int .i64 k_4635), some (.int .i64 (w64 (k_4635 - (1 : Int)))), some (slp A4418 (Int.toNat (w64 (k_4635 - (1 : Int))) * 2)), some (.agg ⟨[.int .i64 ((rd data4630 (w64 (k_4635 - (1 : Int)))).often_), .slice A4640 ((rd data4630 (w64 (k_4635 - (1 : Int)))).symbols_).length c4641]⟩), some (.slice A4418 rw4629.length c4419), some (.int .i64 k_4635), some (slp A4418 (Int.toNat k_4635 * 2)), some (.agg ⟨[.int .i64 ((rd data4630 k_4635).often_), .slice A4647 ((rd data4630 k_4635).symbols_).length c4648]⟩), some (slp A4418 (Int.toNat k_4635 * 2)), some undef, some (slp A4418 (Int.toNat (w64 (k_4635 - (1 : Int))) * 2)), none]) 15 [(0, 15), (1, 15), (5, 15), (6, 15), (7, 15), (8, 15), (9, 15), (13, 15), (14, 15), (12, 13), (10, 12), (11, 12)] hA hcl hav hm hpre rfl rfl rfl rfl rfl
        clear hm hav
        refine phq hA hst ho hcl hav2 hmust 17 [2, 3, 4, 16] rfl rfl rfl rfl rfl (by exact ⟨nR rfl rfl rfl rfl rfl (by exact ovE (mv rfl) rfl), nR rfl rfl rfl rfl rfl (by exact ovE (mv rfl) rfl), nR rfl rfl rfl rfl rfl (by exact ovE (bin rfl rfl rfl) rfl), nR rfl rfl rfl rfl rfl (by exact ovE (ixV (lenx hz4661 rfl) rfl Tryd.runUnderlying110 Tryd.sizeOf112 (hV4657.rd (i := 1) rfl) Row.len rfl (hr4660.inb hk4664)) rfl), trivial⟩) fun D l a w ho hcl hav hpre hm hE hk hA hst => ?_
        have hS := (Ss.mk hE hst).env2 (e' := [(126, .agg ⟨[.int .i64 ((rd data4630 k_4635).often_), .slice A4647 ((rd data4630 k_4635).symbols_).length c4648]⟩), (128, slp A4418 (Int.toNat (w64 (k_4635 - (1 : Int))) * 2))]) ⟨rfl, rfl, trivial⟩
        refine op_of_nth rfl <| stVR (i := (w64 (k_4635 - (1 : Int)))) (sz := 2) 1 (⟨[.int .i64 ((rd data4630 k_4635).often_), .slice A4647 ((rd data4630 k_4635).symbols_).length c4648], by simp, by simp [Value.oneCell']⟩ : Row 2) hS rfl rfl hV4657 rfl Tryd.sizeOf112 rfl (hr4660.inb hk4664) fun rw4671 w f4669 hz hV4670 hS => ?_
        obtain ⟨zs4672, hzm⟩ := nameE (zs4659.set (Int.toNat (w64 (k_4635 - (1 : Int)))) (T_huff_packet.mk ((rd data4630 k_4635).often_) ((rd data4630 k_4635).symbols_)))
        replace hM := lt_to hzm hM
        have hr4673 := RelL.set (x := (T_huff_packet.mk ((rd data4630 k_4635).often_) ((rd data4630 k_4635).symbols_))) (r := (⟨[.int .i64 ((rd data4630 k_4635).often_), .slice A4647 ((rd data4630 k_4635).symbols_).length c4648], by simp, by simp [Value.oneCell']⟩ : Row 2)) (Int.toNat (w64 (k_4635 - (1 : Int)))) hr4660 (show R_huff_packet p4417 _ _ from ⟨A4647, c4648, rfl, hp4649, hc4650⟩)
        have hz4674 : rw4671.length = rw4658.length := by rw [hz]; exact List.length_set ..
        rw [← hz, ← hzm] at hr4673; clear hz hzm
        have hz4675 := Eq.trans hz4674 hz4662
        refine wpList_nil (then_n ?_)
        replace hst := hS.st
        obtain ⟨hcl, hmust, hav2, hA⟩ := dnN (vals' := [some (.slice A4418 rw4629.length c4419), some (.int .i64 k_4635), some (.slice A4418 rw4629.length c4419), some (.int .i64 k_4635), some (.int .i64 (w64 (k_4635 - (1 : Int)))), some (.slice A4418 rw4629.length c4419), some (.int .i64 k_4635), some (.int .i64 (w64 (k_4635 - (1 : Int)))), some (slp A4418 (Int.toNat (w64 (k_4635 - (1 : Int))) * 2)), some (.agg ⟨[.int .i64 ((rd data4630 (w64 (k_4635 - (1 : Int)))).often_), .slice A4640 ((rd data4630 (w64 (k_4635 - (1 : Int)))).symbols_).length c4641]⟩), some (.slice A4418 rw4629.length c4419), some (.int .i64 k_4635), some (slp A4418 (Int.toNat k_4635 * 2)), some (.agg ⟨[.int .i64 ((rd data4630 k_4635).often_), .slice A4647 ((rd data4630 k_4635).symbols_).length c4648]⟩), some (slp A4418 (Int.toNat k_4635 * 2)), some undef, some (slp A4418 (Int.toNat (w64 (k_4635 - (1 : Int))) * 2)), some undef]) 17 [(0, 17), (1, 17), (2, 17), (3, 17), (4, 17), (5, 17), (6, 17), (7, 17), (8, 17), (9, 17), (10, 17), (11, 17), (12, 17), (13, 17), (14, 17), (15, 17), (16, 17)] hA hcl hav hm hpre rfl rfl rfl rfl rfl
        clear hm hav
        refine phqE hA hst ho hcl hmust [] rfl rfl rfl trivial fun a w hS => ?_
        replace hS := hS.env2 (e' := [(0, .slice A4418 rw4671.length c4419), (14, .int .i64 i4578), (17, .int .i64 k_4635)]) ⟨(relk (u := .slice A4418 rw4629.length c4419) rfl (by rw [hz4674, hz4661])), rfl, rfl, trivial⟩
        refine blk_n (then_n ?_)
        refine wp_region_list <| st1 hS (mv rfl) rfl fun a w hS => st1 hS (bin rfl rfl rfl) rfl fun a w hS => st1x (v := Value.int .i64) (x0 := (w64 (k_4635 - (1 : Int)))) hS (asg rfl) rfl fun k_4676 a w hz hS => ?_
        have hM := lt_to hz hM; clear hz
        refine wpList_nil <| then_n ?_
        exact hJ4677 _ _ ⟨rw4671, zs4672, f4669, k_4676, hS.to [0, 1] (by kernel_rfl) ⟨rfl, rfl, rfl, trivial⟩, hV4670, hr4673, hz4675, hM⟩
       ·refine wp_exit ?_
        refine then_ex (then_ex (blk_same (then_n ?_)))
        refine wp_ret <| then_ret ?_
        exact s_ret (rs := []) hS rfl rfl (hret rw4629 data4630 f4631 w (wp_ok hM) hV4632 hr4633 hz4634 (hS.st.pick [0, 1] (by kernel_rfl)))
    ·refine wp_skip ?_
     refine then_n ?_
     exact hJ4678 _ _ ⟨hS.to [0, 1] (by kernel_rfl) ⟨rfl, rfl, rfl, rfl, rfl, trivial⟩, hM⟩
   ·intro a w hI
    obtain ⟨hS, hM⟩ := hI
    rw [slices_symMergeCmpFunc_huff_packet__b6e1_b35e.j8] at hM
    refine wp_seq <| wp_region_list <| st1 hS (mv rfl) rfl fun a w hS => st1 hS (mv rfl) rfl fun a w hS => st1 hS (bin rfl rfl rfl) rfl fun a w hS => st1 hS (cvi rfl Tryd.runUnderlying3 Tryd.runUnderlying39) rfl fun a w hS => st1 hS (shr rfl rfl rfl) rfl fun a w hS => st1 hS (cvi rfl Tryd.runUnderlying39 Tryd.runUnderlying3) rfl fun a w hS => st1x (v := Value.int .i64) (x0 := (wr .i64 (ishr .u64 (wr .u64 (w64 (a_4424 + b_4426))) (1 : Int)))) hS (asg rfl) rfl fun mid4679 a w hz hS => ?_
    have hM := lt_to hz hM; clear hz
    refine wpList_nil <| then_n <| wp_seq <| wp_region_list <| st1 hS (mv rfl) rfl fun a w hS => st1 hS (mv rfl) rfl fun a w hS => st1 hS (bin rfl rfl rfl) rfl fun a w hS => st1x (v := Value.int .i64) (x0 := (w64 (mid4679 + m4425))) hS (asg rfl) rfl fun n_4680 a w hz hS => ?_
    have hM := lt_to hz hM; clear hz
    refine wpList_nil <| then_n <| wp_seq <| wp_region_list <| st1 hS (asg rfl) rfl fun a w hS => st1 hS (asg rfl) rfl fun a w hS => wpList_nil <| then_n <| seq_joinJ (fun a w => ∃ (start4683 : Int) (r4684 : Int), Ss 220 [] [(0, .slice A4418 rw4420.length c4419), (1, .int .i64 a_4424), (2, .int .i64 m4425), (3, .int .i64 b_4426), (4, fnv 84 [] []), (18, .int .i64 mid4679), (19, .int .i64 n_4680), (20, .int .i64 start4683), (21, .int .i64 r4684)] H [p4417, f4422] F a w ∧ (slices_symMergeCmpFunc_huff_packet__b6e1_b35e.j9 K (slices_symMergeCmpFunc_huff_packet__b6e1_b35e.r K d) data4416 a_4424 m4425 b_4426 mid4679 n_4680 start4683 r4684).wp kr kp) (fun J4685 hJ4685 => ?_) ?_
    ·refine wp_seq ?_
     refine wp_region_list <| st1 hS (mv rfl) rfl fun a w hS => st1 hS (mv rfl) rfl fun a w hS => st1 hS (bin rfl rfl rfl) rfl fun a w hS => wpList_nil <| then_n <| s_cond hS rfl hM (fun hb4681 hM => ?_) (fun hb4681 hM => ?_)
     ·refine wp_seq ?_
      refine wp_region_list <| st1 hS (mv rfl) rfl fun a w hS => st1 hS (mv rfl) rfl fun a w hS => st1 hS (bin rfl rfl rfl) rfl fun a w hS => st1x (v := Value.int .i64) (x0 := (w64 (n_4680 - b_4426))) hS (asg rfl) rfl fun start4682 a w hz hS => ?_
      have hM := lt_to hz hM; clear hz
      refine wpList_nil <| then_n <| wp_region_list <| st1 hS (mv rfl) rfl fun a w hS => st1 hS (asg rfl) rfl fun a w hS => wpList_nil <| then_n ?_
      exact hJ4685 _ _ ⟨start4682, mid4679, hS.to [0, 1] (by kernel_rfl) ⟨rfl, rfl, rfl, rfl, rfl, rfl, rfl, rfl, rfl, trivial⟩, hM⟩
     ·refine wp_seq ?_
      refine wp_region_list <| st1 hS (mv rfl) rfl fun a w hS => st1 hS (asg rfl) rfl fun a w hS => wpList_nil <| then_n <| wp_region_list <| st1 hS (mv rfl) rfl fun a w hS => st1 hS (asg rfl) rfl fun a w hS => wpList_nil <| then_n ?_
      exact hJ4685 _ _ ⟨a_4424, m4425, hS.to [0, 1] (by kernel_rfl) ⟨rfl, rfl, rfl, rfl, rfl, rfl, rfl, rfl, rfl, trivial⟩, hM⟩
    ·intro a w hI
     obtain ⟨start4683, r4684, hS, hM⟩ := hI
     rw [slices_symMergeCmpFunc_huff_packet__b6e1_b35e.j9] at hM
     refine wp_seq <| wp_region_list <| st1 hS (mv rfl) rfl fun a w hS => st1 hS (bin rfl rfl rfl) rfl fun a w hS => st1x (v := Value.int .i64) (x0 := (w64 (n_4680 - (1 : Int)))) hS (asg rfl) rfl fun p4686 a w hz hS => ?_
     have hM := lt_to hz hM; clear hz
     refine wpList_nil <| then_n <| seq_joinJ (fun a w => ∃ (start4710 : Int), Ss 220 [] [(0, .slice A4418 rw4420.length c4419), (1, .int .i64 a_4424), (2, .int .i64 m4425), (3, .int .i64 b_4426), (4, fnv 84 [] []), (18, .int .i64 mid4679), (19, .int .i64 n_4680), (20, .int .i64 start4710)] H [p4417, f4422] F a w ∧ (slices_symMergeCmpFunc_huff_packet__b6e1_b35e.j11 K (slices_symMergeCmpFunc_huff_packet__b6e1_b35e.r K d) data4416 a_4424 m4425 b_4426 mid4679 n_4680 start4710).wp kr kp) (fun J4711 hJ4711 => ?_) ?_
     ·refine wp_block ?_
      refine s_loopJ (fun k4689 a w => ∃ (start4687 : Int) (r4688 : Int), Ss 220 [] [(0, .slice A4418 rw4420.length c4419), (1, .int .i64 a_4424), (2, .int .i64 m4425), (3, .int .i64 b_4426), (4, fnv 84 [] []), (18, .int .i64 mid4679), (19, .int .i64 n_4680), (20, .int .i64 start4687), (21, .int .i64 r4688), (22, .int .i64 p4686)] H [p4417, f4422] F a w ∧ (slices_symMergeCmpFunc_huff_packet__b6e1_b35e.l10 K (slices_symMergeCmpFunc_huff_packet__b6e1_b35e.r K d) data4416 a_4424 m4425 b_4426 mid4679 n_4680 p4686 k4689 start4687 r4688).wp kr kp) K ?_ ?_ ?_
      ·exact ⟨start4683, r4684, hS.to [0, 1] (by kernel_rfl) ⟨rfl, rfl, rfl, rfl, rfl, rfl, rfl, rfl, rfl, rfl, trivial⟩, hM⟩
      ·intro a w hI; obtain ⟨_, _, _, hM⟩ := hI; exact wp_fail hM
      ·intro k4689 a w hI J4709 hJ4709
       obtain ⟨start4687, r4688, hS, hM⟩ := hI
       rw [slices_symMergeCmpFunc_huff_packet__b6e1_b35e.l10] at hM
       refine wp_seq <| wp_seq <| wp_region_list <| st1 hS (mv rfl) rfl fun a w hS => st1 hS (mv rfl) rfl fun a w hS => st1 hS (bin rfl rfl rfl) rfl fun a w hS => wpList_nil <| then_n <| s_cond hS rfl hM (fun hb4690 hM => ?_) (fun hb4690 hM => ?_)
       ·refine wp_skip ?_
        refine then_n <| wp_block <| wp_seq <| wp_region_list <| st1 hS (mv rfl) rfl fun a w hS => st1 hS (mv rfl) rfl fun a w hS => st1 hS (bin rfl rfl rfl) rfl fun a w hS => st1 hS (cvi rfl Tryd.runUnderlying3 Tryd.runUnderlying39) rfl fun a w hS => st1 hS (shr rfl rfl rfl) rfl fun a w hS => st1 hS (cvi rfl Tryd.runUnderlying39 Tryd.runUnderlying3) rfl fun a w hS => st1x (v := Value.int .i64) (x0 := (wr .i64 (ishr .u64 (wr .u64 (w64 (start4687 + r4688))) (1 : Int)))) hS (asg rfl) rfl fun c_4691 a w hz hS => ?_
        have hM := lt_to hz hM; clear hz
        refine wpList_nil <| then_n <| wp_seq ?_
        obtain ⟨hk4693, hM⟩ := wp_chk hM
        obtain ⟨A4694, c4695, hw4698, hp4696, hc4697⟩ := hr4421.get hk4693
        obtain ⟨hk4700, hM⟩ := wp_chk hM
        obtain ⟨A4701, c4702, hw4705, hp4703, hc4704⟩ := hr4421.get hk4700
        refine draw_begin (vals := [some (fnv 84 [] []), some (.slice A4418 rw4420.length c4419), some (.int .i64 p4686), some (.int .i64 c_4691), some (.int .i64 (w64 (p4686 - c_4691))), some (slp A4418 (Int.toNat (w64 (p4686 - c_4691)) * 2)), some (.agg ⟨[.int .i64 ((rd data4416 (w64 (p4686 - c_4691))).often_), .slice A4694 ((rd data4416 (w64 (p4686 - c_4691))).symbols_).length c4695]⟩), some (.slice A4418 rw4420.length c4419), some (.int .i64 c_4691), some (slp A4418 (Int.toNat c_4691 * 2)), some (.agg ⟨[.int .i64 ((rd data4416 c_4691).often_), .slice A4701 ((rd data4416 c_4691).symbols_).length c4702]⟩), none, none, none]) hS mixed rfl ?_
        intro l w ho hcl hA hst
        refine phq hA hst ho hcl navail nmust 11 [0, 1, 2, 3, 4, 5, 6, 7, 8, 9, 10] rfl rfl rfl rfl rfl (by exact ⟨nR rfl rfl rfl rfl rfl (by exact ovE (mv rfl) rfl), nR rfl rfl rfl rfl rfl (by exact ovE (mv rfl) rfl), nR rfl rfl rfl rfl rfl (by exact ovE (mv rfl) rfl), nR rfl rfl rfl rfl rfl (by exact ovE (mv rfl) rfl), nR rfl rfl rfl rfl rfl (by exact ovE (bin rfl rfl rfl) rfl), nR rfl rfl rfl rfl rfl (by exact ovE (ixV rfl rfl Tryd.runUnderlying110 Tryd.sizeOf112 (hV4423.rd (i := 1) rfl) Row.len rfl (hr4421.inb hk4693)) rfl), nR rfl rfl rfl rfl rfl (by exact ovE (ovE (ldVA rfl (hV4423.rd (i := 1) rfl) Row.len (hr4421.inb hk4693) Tryd.isAgg112 Tryd.sizeOf112 rfl) (congrArg (fun l => Value.agg ⟨l⟩) hw4698)) rfl), nR rfl rfl rfl rfl rfl (by exact ovE (mv rfl) rfl), nR rfl rfl rfl rfl rfl (by exact ovE (mv rfl) rfl), nR rfl rfl rfl rfl rfl (by exact ovE (ixV rfl rfl Tryd.runUnderlying110 Tryd.sizeOf112 (hV4423.rd (i := 1) rfl) Row.len rfl (hr4421.inb hk4700)) rfl), nR rfl rfl rfl rfl rfl (by exact ovE (ovE (ldVA rfl (hV4423.rd (i := 1) rfl) Row.len (hr4421.inb hk4700) Tryd.isAgg112 Tryd.sizeOf112 rfl) (congrArg (fun l => Value.agg ⟨l⟩) hw4705)) rfl), trivial⟩) fun D l a w ho hcl hav hpre hm hE hk hA hst => ?_
        have hS := (Ss.mk hE hst).env2 (e' := [(158, fnv 84 [] []), (164, .agg ⟨[.int .i64 ((rd data4416 (w64 (p4686 - c_4691))).often_), .slice A4694 ((rd data4416 (w64 (p4686 - c_4691))).symbols_).length c4695]⟩), (168, .agg ⟨[.int .i64 ((rd data4416 c_4691).often_), .slice A4701 ((rd data4416 c_4691).symbols_).length c4702]⟩)]) ⟨rfl, rfl, rfl, trivial⟩
        refine op_of_nth rfl <| s_callV hS rfl rfl Tryd.call84 (huff_merged_1_c hG K (T_huff_packet.mk ((rd data4416 (w64 (p4686 - c_4691))).often_) ((rd data4416 (w64 (p4686 - c_4691))).symbols_)) (T_huff_packet.mk ((rd data4416 c_4691).often_) ((rd data4416 c_4691).symbols_)) A4694 c4695 A4701 c4702 (hp4696.rdF (i := 0) rfl) hc4697 (hp4703.rdF (i := 0) rfl) hc4704 (hS.st.part 0 [0, 1] (by kernel_rfl)) (wp_bind hM) (fun x4706 w hM  hst => s_back hS.ev hst.appF rfl fun hS => ?_))
        replace hS : Ss _ _ _ H [p4417, f4422] F _ _ := hS
        refine wpList_nil (then_n ?_)
        replace hst := hS.st
        obtain ⟨hcl, hmust, hav2, hA⟩ := dn (vals' := [some (fnv 84 [] []), some (.slice A4418 rw4420.length c4419), some (.int .i64 p4686), some (.int .i64 c_4691), some (.int .i64 (w64 (p4686 - c_4691))), some (slp A4418 (Int.toNat (w64 (p4686 - c_4691)) * 2)), some (.agg ⟨[.int .i64 ((rd data4416 (w64 (p4686 - c_4691))).often_), .slice A4694 ((rd data4416 (w64 (p4686 - c_4691))).symbols_).length c4695]⟩), some (.slice A4418 rw4420.length c4419), some (.int .i64 c_4691), some (slp A4418 (Int.toNat c_4691 * 2)), some (.agg ⟨[.int .i64 ((rd data4416 c_4691).often_), .slice A4701 ((rd data4416 c_4691).symbols_).length c4702]⟩), some (.int .i64 x4706), some (.bool (decide (x4706 < (0 : Int)))), some (.bool (!(decide (x4706 < (0 : Int)))))]) 11 [(0, 11), (6, 11), (10, 11), (5, 6), (9, 10), (1, 5), (4, 5), (7, 9), (8, 9), (2, 4), (3, 4)] hA hcl hav hm hpre hk rfl rfl rfl rfl rfl rfl rfl
        clear hm hav
        refine phqE hA hst ho hcl hmust [12, 13] rfl rfl rfl (by exact ⟨nR rfl rfl rfl rfl rfl (by exact ovE (bin rfl rfl rfl) rfl), nR rfl rfl rfl rfl rfl (by exact ovE (un rfl rfl) rfl), trivial⟩) fun a w hS => ?_
        replace hS := hS.env2 (e' := [(0, .slice A4418 rw4420.length c4419), (1, .int .i64 a_4424), (2, .int .i64 m4425), (3, .int .i64 b_4426), (4, fnv 84 [] []), (18, .int .i64 mid4679), (19, .int .i64 n_4680), (20, .int .i64 start4687), (21, .int .i64 r4688), (22, .int .i64 p4686), (23, .int .i64 c_4691), (171, .bool (!(decide (x4706 < (0 : Int)))))]) ⟨rfl, rfl, rfl, rfl, rfl, rfl, rfl, rfl, rfl, rfl, rfl, rfl, trivial⟩
        refine then_n <| s_cond hS rfl hM (fun hb4707 hM => ?_) (fun hb4707 hM => ?_)
        ·refine wp_region_list ?_
         refine st1 hS (mv rfl) rfl fun a w hS => st1 hS (bin rfl rfl rfl) rfl fun a w hS => st1x (v := Value.int .i64) (x0 := (w64 (c_4691 + (1 : Int)))) hS (asg rfl) rfl fun start4708 a w hz hS => ?_
         have hM := lt_to hz hM; clear hz
         refine wpList_nil <| blk_n (then_n ?_)
         exact hJ4709 _ _ ⟨start4708, r4688, hS.to [0, 1] (by kernel_rfl) ⟨rfl, rfl, rfl, rfl, rfl, rfl, rfl, rfl, rfl, rfl, trivial⟩, hM⟩
        ·refine wp_region_list ?_
         refine st1 hS (mv rfl) rfl fun a w hS => st1 hS (asg rfl) rfl fun a w hS => wpList_nil <| blk_n (then_n ?_)
         exact hJ4709 _ _ ⟨start4687, c_4691, hS.to [0, 1] (by kernel_rfl) ⟨rfl, rfl, rfl, rfl, rfl, rfl, rfl, rfl, rfl, rfl, trivial⟩, hM⟩
       ·refine wp_exit ?_
        refine then_ex (then_ex (blk_same (then_n ?_)))
        exact hJ4711 _ _ ⟨start4687, hS.to [0, 1] (by kernel_rfl) ⟨rfl, rfl, rfl, rfl, rfl, rfl, rfl, rfl, trivial⟩, hM⟩
     ·intro a w hI
      obtain ⟨start4710, hS, hM⟩ := hI
      rw [slices_symMergeCmpFunc_huff_packet__b6e1_b35e.j11] at hM
      refine wp_seq <| wp_region_list <| st1 hS (mv rfl) rfl fun a w hS => st1 hS (mv rfl) rfl fun a w hS => st1 hS (bin rfl rfl rfl) rfl fun a w hS => st1x (v := Value.int .i64) (x0 := (w64 (n_4680 - start4710))) hS (asg rfl) rfl fun end_4712 a w hz hS => ?_
      have hM := lt_to hz hM; clear hz
      refine wpList_nil <| then_n <| seq_joinJ (fun a w => ∃ (rw4721 : List (Row 2)) (data4722 : (List T_huff_packet)) (f4723 : Frag), Ss 220 [] [(0, .slice A4418 rw4721.length c4419), (1, .int .i64 a_4424), (3, .int .i64 b_4426), (4, fnv 84 [] []), (18, .int .i64 mid4679), (20, .int .i64 start4710), (24, .int .i64 end_4712)] H [p4417, f4723] F a w ∧ (Vec 112 (Row.v (sz := 2)) 2 A4418 rw4721 c4419 f4723) ∧ (RelL (R_huff_packet p4417) data4722 rw4721) ∧ (rw4721.length = rw4420.length) ∧ (slices_symMergeCmpFunc_huff_packet__b6e1_b35e.j12 K (slices_symMergeCmpFunc_huff_packet__b6e1_b35e.r K d) a_4424 b_4426 mid4679 start4710 end_4712 data4722).wp kr kp) (fun J4727 hJ4727 => ?_) ?_
      ·refine wp_seq ?_
       refine wp_region_list <| st1 hS (mv rfl) rfl fun a w hS => st1 hS (mv rfl) rfl fun a w hS => st1 hS (bin rfl rfl rfl) rfl fun a w hS => st1 hS (mv rfl) rfl fun a w hS => g_op 3 true 181 (b := (decide (start4710 < m4425))) (r := (decide (m4425 < end_4712))) hS rfl rfl rfl rfl rfl rfl rfl (fun hb a w hS K hK => ?_) rfl fun a w hS => ?_
       ·refine st1g hS rfl rfl rfl hb (mv rfl) rfl fun a w hS => ?_
        refine st1g hS rfl rfl rfl hb (mv rfl) rfl fun a w hS => st1g hS rfl rfl rfl hb (bin rfl rfl rfl) rfl fun a w hS => ?_
        exact wpList_nil (hK _ _ (hS.up 3 rfl rfl))
       refine wpList_nil <| then_n <| s_cond hS rfl hM (fun hb4713 hM => ?_) (fun hb4713 hM => ?_)
       ·refine wp_region_list ?_
        refine st1 hS (mv rfl) rfl fun a w hS => st1 hS (mv rfl) rfl fun a w hS => st1 hS (mv rfl) rfl fun a w hS => st1 hS (mv rfl) rfl fun a w hS => st1 hS (mv rfl) rfl fun a w hS => s_call hS rfl Tryd.call108 (slices_rotateCmpFunc_huff_packet__b6e1_b35e_c hG K data4416 start4710 m4425 end_4712 p4417 A4418 c4419 rw4420 f4422 hr4421 hV4423 (hS.st.part 2 [0, 1] (by kernel_rfl)) (wp_bind hM) (fun rw4714 data4715 f4716 w hM h4717 h4718 h4719 hst => s_back hS.ev hst.appF rfl fun hS => ?_))
        replace hS : Ss _ _ _ H [p4417, f4716] F _ _ := hS
        have hz4720 := Eq.trans h4719 hz4428
        replace hS := hS.re 0 (u := .slice A4418 rw4420.length c4419) (v := .slice A4418 rw4714.length c4419) rfl (by rw [h4719])
        replace hS := hS.re 186 (u := .slice A4418 rw4420.length c4419) (v := .slice A4418 rw4714.length c4419) rfl (by rw [h4719])
        refine wpList_nil <| then_n ?_
        exact hJ4727 _ _ ⟨rw4714, data4715, f4716, hS.to [0, 1] (by kernel_rfl) ⟨rfl, rfl, rfl, rfl, rfl, rfl, rfl, trivial⟩, h4717, h4718, hz4720, hM⟩
       ·refine wp_skip ?_
        refine then_n ?_
        exact hJ4727 _ _ ⟨rw4420, data4416, f4422, hS.to [0, 1] (by kernel_rfl) ⟨rfl, rfl, rfl, rfl, rfl, rfl, rfl, trivial⟩, hV4423, hr4421, hz4428, hM⟩
      ·intro a w hI
       obtain ⟨rw4721, data4722, f4723, hS, hV4724, hr4725, hz4726, hM⟩ := hI
       rw [slices_symMergeCmpFunc_huff_packet__b6e1_b35e.j12] at hM
       refine seq_joinJ (fun a w => ∃ (rw4736 : List (Row 2)) (data4737 : (List T_huff_packet)) (f4738 : Frag), Ss 220 [] [(0, .slice A4418 rw4736.length c4419), (3, .int .i64 b_4426), (4, fnv 84 [] []), (18, .int .i64 mid4679), (24, .int .i64 end_4712)] H [p4417, f4738] F a w ∧ (Vec 112 (Row.v (sz := 2)) 2 A4418 rw4736 c4419 f4738) ∧ (RelL (R_huff_packet p4417) data4737 rw4736) ∧ (rw4736.length = rw4420.length) ∧ (slices_symMergeCmpFunc_huff_packet__b6e1_b35e.j13 K (slices_symMergeCmpFunc_huff_packet__b6e1_b35e.r K d) b_4426 mid4679 end_4712 data4737).wp kr kp) (fun J4742 hJ4742 => ?_) ?_
       ·refine wp_seq ?_
        refine wp_region_list <| st1 hS (mv rfl) rfl fun a w hS => st1 hS (mv rfl) rfl fun a w hS => st1 hS (bin rfl rfl rfl) rfl fun a w hS => st1 hS (mv rfl) rfl fun a w hS => g_op 3 true 195 (b := (decide (a_4424 < start4710))) (r := (decide (start4710 < mid4679))) hS rfl rfl rfl rfl rfl rfl rfl (fun hb a w hS K hK => ?_) rfl fun a w hS => ?_
        ·refine st1g hS rfl rfl rfl hb (mv rfl) rfl fun a w hS => ?_
         refine st1g hS rfl rfl rfl hb (mv rfl) rfl fun a w hS => st1g hS rfl rfl rfl hb (bin rfl rfl rfl) rfl fun a w hS => ?_
         exact wpList_nil (hK _ _ (hS.up 3 rfl rfl))
        refine wpList_nil <| then_n <| s_cond hS rfl hM (fun hb4728 hM => ?_) (fun hb4728 hM => ?_)
        ·refine wp_region_list ?_
         refine st1 hS (mv rfl) rfl fun a w hS => st1 hS (mv rfl) rfl fun a w hS => st1 hS (mv rfl) rfl fun a w hS => st1 hS (mv rfl) rfl fun a w hS => st1 hS (mv rfl) rfl fun a w hS => s_call hS rfl Tryd.call100 (ih hG  data4722 a_4424 start4710 mid4679 p4417 A4418 c4419 rw4721 f4723 hr4725 hV4724 (hS.st.part 2 [0, 1] (by kernel_rfl)) (wp_bind hM) (fun rw4729 data4730 f4731 w hM h4732 h4733 h4734 hst => s_back hS.ev hst.appF rfl fun hS => ?_))
         replace hS : Ss _ _ _ H [p4417, f4731] F _ _ := hS
         have hz4735 := Eq.trans h4734 hz4726
         replace hS := hS.re 0 (u := .slice A4418 rw4721.length c4419) (v := .slice A4418 rw4729.length c4419) rfl (by rw [h4734])
         replace hS := hS.re 200 (u := .slice A4418 rw4721.length c4419) (v := .slice A4418 rw4729.length c4419) rfl (by rw [h4734])
         refine wpList_nil <| then_n ?_
         exact hJ4742 _ _ ⟨rw4729, data4730, f4731, hS.to [0, 1] (by kernel_rfl) ⟨rfl, rfl, rfl, rfl, rfl, trivial⟩, h4732, h4733, hz4735, hM⟩
        ·refine wp_skip ?_
         refine then_n ?_
         exact hJ4742 _ _ ⟨rw4721, data4722, f4723, hS.to [0, 1] (by kernel_rfl) ⟨rfl, rfl, rfl, rfl, rfl, trivial⟩, hV4724, hr4725, hz4726, hM⟩
       ·intro a w hI
        obtain ⟨rw4736, data4737, f4738, hS, hV4739, hr4740, hz4741, hM⟩ := hI
        rw [slices_symMergeCmpFunc_huff_packet__b6e1_b35e.j13] at hM
        refine wp_seq <| wp_region_list <| st1 hS (mv rfl) rfl fun a w hS => st1 hS (mv rfl) rfl fun a w hS => st1 hS (bin rfl rfl rfl) rfl fun a w hS => st1 hS (mv rfl) rfl fun a w hS => g_op 3 true 209 (b := (decide (mid4679 < end_4712))) (r := (decide (end_4712 < b_4426))) hS rfl rfl rfl rfl rfl rfl rfl (fun hb a w hS K hK => ?_) rfl fun a w hS => ?_
        ·refine st1g hS rfl rfl rfl hb (mv rfl) rfl fun a w hS => ?_
         refine st1g hS rfl rfl rfl hb (mv rfl) rfl fun a w hS => st1g hS rfl rfl rfl hb (bin rfl rfl rfl) rfl fun a w hS => ?_
         exact wpList_nil (hK _ _ (hS.up 3 rfl rfl))
        refine wpList_nil <| then_n <| s_cond hS rfl hM (fun hb4743 hM => ?_) (fun hb4743 hM => ?_)
        ·refine wp_region_list ?_
         refine st1 hS (mv rfl) rfl fun a w hS => st1 hS (mv rfl) rfl fun a w hS => st1 hS (mv rfl) rfl fun a w hS => st1 hS (mv rfl) rfl fun a w hS => st1 hS (mv rfl) rfl fun a w hS => s_call hS rfl Tryd.call100 (ih hG  data4737 mid4679 end_4712 b_4426 p4417 A4418 c4419 rw4736 f4738 hr4740 hV4739 (hS.st.part 2 [0, 1] (by kernel_rfl)) (wp_bind hM) (fun rw4744 data4745 f4746 w hM h4747 h4748 h4749 hst => s_back hS.ev hst.appF rfl fun hS => ?_))
         replace hS : Ss _ _ _ H [p4417, f4746] F _ _ := hS
         have hz4750 := Eq.trans h4749 hz4741
         replace hS := hS.re 0 (u := .slice A4418 rw4736.length c4419) (v := .slice A4418 rw4744.length c4419) rfl (by rw [h4749])
         replace hS := hS.re 214 (u := .slice A4418 rw4736.length c4419) (v := .slice A4418 rw4744.length c4419) rfl (by rw [h4749])
         refine wpList_nil ?_
         exact s_end (rs := []) hS rfl rfl (hret rw4744 data4745 f4746 w (wp_ok hM) h4747 h4748 hz4750 (hS.st.pick [0, 1] (by kernel_rfl)))
        ·refine wp_skip ?_
         exact s_end (rs := []) hS rfl rfl (hret rw4736 data4737 f4738 w (wp_ok hM) hV4739 hr4740 hz4741 (hS.st.pick [0, 1] (by kernel_rfl)))

theorem slices_symMergeCmpFunc_huff_packet__b6e1_b35e_c {H : Imm} {F : List Frag} {w : World} {R : Ending → World → Prop} {kr : (List T_huff_packet) → Prop} {kp : Value → Prop} (hG : Gl H) (K : Nat) (data4416 : List T_huff_packet) (a_4424 : Int) (m4425 : Int) (b_4426 : Int) (p4417 : Frag) (A4418 : Option Addr) (c4419 : Nat) (rw4420 : List (Row 2)) (f4422 : Frag) (hr4421 : RelL (R_huff_packet p4417) data4416 rw4420) (hV4423 : Vec 112 (Row.v (sz := 2)) 2 A4418 rw4420 c4419 f4422)
    (hS : St w H [p4417, f4422] F) (hm : (slices_symMergeCmpFunc_huff_packet__b6e1_b35e.m K data4416 a_4424 m4425 b_4426).wp kr kp)
    (hret : ∀ (rw4751 : List (Row 2)) (data4752 : (List T_huff_packet)) (f4753 : Frag) (w : World), kr data4752 → (Vec 112 (Row.v (sz := 2)) 2 A4418 rw4751 c4419 f4753) → (RelL (R_huff_packet p4417) data4752 rw4751) → (rw4751.length = rw4420.length) → St w H [p4417, f4753] F → R (.returned (.tuple ⟨[]⟩)) w) :
    Calls Tryd.prog 100 ⟨[.slice A4418 rw4420.length c4419, .int .i64 a_4424, .int .i64 m4425, .int .i64 b_4426, fnv 84 [] []]⟩ w R := slices_symMergeCmpFunc_huff_packet__b6e1_b35e_cr K K hG data4416 a_4424 m4425 b_4426 p4417 A4418 c4419 rw4420 f4422 hr4421 hV4423 hS hm hret

theorem slices_stableCmpFunc_huff_packet__b6e1_c92d_c {H : Imm} {F : List Frag} {w : World} {R : Ending → World → Prop} {kr : (List T_huff_packet) → Prop} {kp : Value → Prop} (hG : Gl H) (K : Nat) (data3484 : List T_huff_packet) (n_3492 : Int) (p3485 : Frag) (A3486 : Option Addr) (c3487 : Nat) (rw3488 : List (Row 2)) (f3490 : Frag) (hr3489 : RelL (R_huff_packet p3485) data3484 rw3488) (hV3491 : Vec 112 (Row.v (sz := 2)) 2 A3486 rw3488 c3487 f3490)
    (hS : St w H [p3485, f3490] F) (hm : (slices_stableCmpFunc_huff_packet__b6e1_c92d.m K data3484 n_3492).wp kr kp)
    (hret : ∀ (rw4887 : List (Row 2)) (data4888 : (List T_huff_packet)) (f4889 : Frag) (w : World), kr data4888 → (Vec 112 (Row.v (sz := 2)) 2 A3486 rw4887 c3487 f4889) → (RelL (R_huff_packet p3485) data4888 rw4887) → (rw4887.length = rw3488.length) → St w H [p3485, f4889] F → R (.returned (.tuple ⟨[]⟩)) w) :
    Calls Tryd.prog 81 ⟨[.slice A3486 rw3488.length c3487, .int .i64 n_3492, fnv 84 [] []]⟩ w R := by
 refine enter Tryd.func81 rfl Tryd.ntmps81 rfl hS fun a w hS => ?_
 have hM := hm; clear hm
 rw [slices_stableCmpFunc_huff_packet__b6e1_c92d.m] at hM
 have hs3493 : ∀ q ∈ p3485, q ∈ p3485 := fun _ h => h
 have hz3494 : rw3488.length = rw3488.length := rfl
 refine wp_seq <| wp_region_list <| st1 hS (asg rfl) rfl fun a w hS => wpList_nil <| then_n <| wp_seq <| wp_region_list <| st1 hS (mv rfl) rfl fun a w hS => st1 hS (asg rfl) rfl fun a w hS => st1 hS (asg rfl) rfl fun a w hS => wpList_nil <| then_n <| seq_joinJ (fun a w => ∃ (rw3863 : List (Row 2)) (data3864 : (List T_huff_packet)) (f3865 : Frag) (a_3869 : Int), Ss 63 [] [(0, .slice A3486 rw3863.length c3487), (1, .int .i64 n_3492), (2, fnv 84 [] []), (6, .int .i64 (20 : Int)), (7, .int .i64 a_3869)] H [p3485, f3865] F a w ∧ (Vec 112 (Row.v (sz := 2)) 2 A3486 rw3863 c3487 f3865) ∧ (RelL (R_huff_packet p3485) data3864 rw3863) ∧ (rw3863.length = rw3488.length) ∧ (slices_stableCmpFunc_huff_packet__b6e1_c92d.j2 K n_3492 data3864 a_3869).wp kr kp) (fun J3870 hJ3870 => ?_) ?_
 ·refine wp_block ?_
  refine s_loopJ (fun k3852 a w => ∃ (rw3844 : List (Row 2)) (data3845 : (List T_huff_packet)) (f3846 : Frag) (a_3850 : Int) (b_3851 : Int), Ss 63 [] [(0, .slice A3486 rw3844.length c3487), (1, .int .i64 n_3492), (2, fnv 84 [] []), (6, .int .i64 (20 : Int)), (7, .int .i64 a_3850), (8, .int .i64 b_3851)] H [p3485, f3846] F a w ∧ (Vec 112 (Row.v (sz := 2)) 2 A3486 rw3844 c3487 f3846) ∧ (RelL (R_huff_packet p3485) data3845 rw3844) ∧ (rw3844.length = rw3488.length) ∧ (slices_stableCmpFunc_huff_packet__b6e1_c92d.l1 K n_3492 k3852 data3845 a_3850 b_3851).wp kr kp) K ?_ ?_ ?_
  ·exact ⟨rw3488, data3484, f3490, (0 : Int), (20 : Int), hS.to [0, 1] (by kernel_rfl) ⟨rfl, rfl, rfl, rfl, rfl, rfl, trivial⟩, hV3491, hr3489, hz3494, hM⟩
  ·intro a w hI; obtain ⟨_, _, _, _, _, _, _, _, _, hM⟩ := hI; exact wp_fail hM
  ·intro k3852 a w hI J3862 hJ3862
   obtain ⟨rw3844, data3845, f3846, a_3850, b_3851, hS, hV3847, hr3848, hz3849, hM⟩ := hI
   rw [slices_stableCmpFunc_huff_packet__b6e1_c92d.l1] at hM
   refine wp_seq <| wp_seq <| wp_region_list <| st1 hS (mv rfl) rfl fun a w hS => st1 hS (mv rfl) rfl fun a w hS => st1 hS (bin rfl rfl rfl) rfl fun a w hS => wpList_nil <| then_n <| s_cond hS rfl hM (fun hb3853 hM => ?_) (fun hb3853 hM => ?_)
   ·refine wp_skip ?_
    refine then_n <| wp_block <| wp_seq <| wp_region_list <| st1 hS (mv rfl) rfl fun a w hS => st1 hS (mv rfl) rfl fun a w hS => st1 hS (mv rfl) rfl fun a w hS => st1 hS (mv rfl) rfl fun a w hS => s_call hS rfl Tryd.call99 (slices_insertionSortCmpFunc_huff_packet__b6e1_dee5_c hG K data3845 a_3850 b_3851 p3485 A3486 c3487 rw3844 f3846 hr3848 hV3847 (hS.st.part 2 [0, 1] (by kernel_rfl)) (wp_bind hM) (fun rw3854 data3855 f3856 w hM h3857 h3858 h3859 hst => s_back hS.ev hst.appF rfl fun hS => ?_))
    replace hS : Ss _ _ _ H [p3485, f3856] F _ _ := hS
    have hz3860 := Eq.trans h3859 hz3849
    replace hS := hS.re 0 (u := .slice A3486 rw3844.length c3487) (v := .slice A3486 rw3854.length c3487) rfl (by rw [h3859])
    replace hS := hS.re 14 (u := .slice A3486 rw3844.length c3487) (v := .slice A3486 rw3854.length c3487) rfl (by rw [h3859])
    refine wpList_nil <| then_n <| wp_seq <| wp_region_list <| st1 hS (mv rfl) rfl fun a w hS => st1 hS (asg rfl) rfl fun a w hS => wpList_nil <| then_n <| wp_region_list <| st1 hS (mv rfl) rfl fun a w hS => st1 hS (mv rfl) rfl fun a w hS => st1 hS (bin rfl rfl rfl) rfl fun a w hS => st1x (v := Value.int .i64) (x0 := (w64 (b_3851 + (20 : Int)))) hS (asg rfl) rfl fun b_3861 a w hz hS => ?_
    have hM := lt_to hz hM; clear hz
    refine wpList_nil <| blk_n (then_n ?_)
    exact hJ3862 _ _ ⟨rw3854, data3855, f3856, b_3851, b_3861, hS.to [0, 1] (by kernel_rfl) ⟨rfl, rfl, rfl, rfl, rfl, rfl, trivial⟩, h3857, h3858, hz3860, hM⟩
   ·refine wp_exit ?_
    refine then_ex (then_ex (blk_same (then_n ?_)))
    exact hJ3870 _ _ ⟨rw3844, data3845, f3846, a_3850, hS.to [0, 1] (by kernel_rfl) ⟨rfl, rfl, rfl, rfl, rfl, trivial⟩, hV3847, hr3848, hz3849, hM⟩
 ·intro a w hI
  obtain ⟨rw3863, data3864, f3865, a_3869, hS, hV3866, hr3867, hz3868, hM⟩ := hI
  rw [slices_stableCmpFunc_huff_packet__b6e1_c92d.j2] at hM
  refine wp_seq <| wp_region_list <| st1 hS (mv rfl) rfl fun a w hS => st1 hS (mv rfl) rfl fun a w hS => st1 hS (mv rfl) rfl fun a w hS => st1 hS (mv rfl) rfl fun a w hS => s_call hS rfl Tryd.call99 (slices_insertionSortCmpFunc_huff_packet__b6e1_dee5_c hG K data3864 a_3869 n_3492 p3485 A3486 c3487 rw3863 f3865 hr3867 hV3866 (hS.st.part 2 [0, 1] (by kernel_rfl)) (wp_bind hM) (fun rw3871 data3872 f3873 w hM h3874 h3875 h3876 hst => s_back hS.ev hst.appF rfl fun hS => ?_))
  replace hS : Ss _ _ _ H [p3485, f3873] F _ _ := hS
  have hz3877 := Eq.trans h3876 hz3868
  replace hS := hS.re 0 (u := .slice A3486 rw3863.length c3487) (v := .slice A3486 rw3871.length c3487) rfl (by rw [h3876])
  replace hS := hS.re 23 (u := .slice A3486 rw3863.length c3487) (v := .slice A3486 rw3871.length c3487) rfl (by rw [h3876])
  refine wpList_nil <| then_n <| wp_block <| s_loopJ (fun k4825 a w => ∃ (rw4818 : List (Row 2)) (data4819 : (List T_huff_packet)) (f4820 : Frag) (blockSize4824 : Int), Ss 63 [] [(0, .slice A3486 rw4818.length c3487), (1, .int .i64 n_3492), (2, fnv 84 [] []), (6, .int .i64 blockSize4824)] H [p3485, f4820] F a w ∧ (Vec 112 (Row.v (sz := 2)) 2 A3486 rw4818 c3487 f4820) ∧ (RelL (R_huff_packet p3485) data4819 rw4818) ∧ (rw4818.length = rw3488.length) ∧ (slices_stableCmpFunc_huff_packet__b6e1_c92d.l3 K n_3492 k4825 data4819 blockSize4824).wp kr kp) K ?_ ?_ ?_
  ·exact ⟨rw3871, data3872, f3873, (20 : Int), hS.to [0, 1] (by kernel_rfl) ⟨rfl, rfl, rfl, rfl, trivial⟩, h3874, h3875, hz3877, hM⟩
  ·intro a w hI; obtain ⟨_, _, _, _, _, _, _, _, hM⟩ := hI; exact wp_fail hM
  ·intro k4825 a w hI J4886 hJ4886
   obtain ⟨rw4818, data4819, f4820, blockSize4824, hS, hV4821, hr4822, hz4823, hM⟩ := hI
   rw [slices_stableCmpFunc_huff_packet__b6e1_c92d.l3] at hM
   refine wp_seq <| wp_seq <| wp_region_list <| st1 hS (mv rfl) rfl fun a w hS => st1 hS (mv rfl) rfl fun a w hS => st1 hS (bin rfl rfl rfl) rfl fun a w hS => wpList_nil <| then_n <| s_cond hS rfl hM (fun hb4826 hM => ?_) (fun hb4826 hM => ?_)
   ·refine wp_skip ?_
    refine then_n <| wp_block <| wp_seq <| wp_region_list <| st1 hS (mv rfl) rfl fun a w hS => st1 hS (bin rfl rfl rfl) rfl fun a w hS => st1 hS (asg rfl) rfl fun a w hS => st1x (v := Value.int .i64) (x0 := (w64 ((2 : Int) * blockSize4824))) hS (asg rfl) rfl fun b_4827 a w hz hS => ?_
    have hM := lt_to hz hM; clear hz
    refine wpList_nil <| then_n <| seq_joinJ (fun a w => ∃ (rw4867 : List (Row 2)) (data4868 : (List T_huff_packet)) (f4869 : Frag) (a_4873 : Int), Ss 63 [] [(0, .slice A3486 rw4867.length c3487), (1, .int .i64 n_3492), (2, fnv 84 [] []), (6, .int .i64 blockSize4824), (7, .int .i64 a_4873)] H [p3485, f4869] F a w ∧ (Vec 112 (Row.v (sz := 2)) 2 A3486 rw4867 c3487 f4869) ∧ (RelL (R_huff_packet p3485) data4868 rw4867) ∧ (rw4867.length = rw3488.length) ∧ (slices_stableCmpFunc_huff_packet__b6e1_c92d.j5 K (slices_stableCmpFunc_huff_packet__b6e1_c92d.l3 K n_3492 k4825) n_3492 blockSize4824 data4868 a_4873).wp kr kp) (fun J4874 hJ4874 => ?_) ?_
    ·refine wp_block ?_
     refine s_loopJ (fun k4856 a w => ∃ (rw4848 : List (Row 2)) (data4849 : (List T_huff_packet)) (f4850 : Frag) (a_4854 : Int) (b_4855 : Int), Ss 63 [] [(0, .slice A3486 rw4848.length c3487), (1, .int .i64 n_3492), (2, fnv 84 [] []), (6, .int .i64 blockSize4824), (7, .int .i64 a_4854), (8, .int .i64 b_4855)] H [p3485, f4850] F a w ∧ (Vec 112 (Row.v (sz := 2)) 2 A3486 rw4848 c3487 f4850) ∧ (RelL (R_huff_packet p3485) data4849 rw4848) ∧ (rw4848.length = rw3488.length) ∧ (slices_stableCmpFunc_huff_packet__b6e1_c92d.l4 K (slices_stableCmpFunc_huff_packet__b6e1_c92d.l3 K n_3492 k4825) n_3492 blockSize4824 k4856 data4849 a_4854 b_4855).wp kr kp) K ?_ ?_ ?_
     ·exact ⟨rw4818, data4819, f4820, (0 : Int), b_4827, hS.to [0, 1] (by kernel_rfl) ⟨rfl, rfl, rfl, rfl, rfl, rfl, trivial⟩, hV4821, hr4822, hz4823, hM⟩
     ·intro a w hI; obtain ⟨_, _, _, _, _, _, _, _, _, hM⟩ := hI; exact wp_fail hM
     ·intro k4856 a w hI J4866 hJ4866
      obtain ⟨rw4848, data4849, f4850, a_4854, b_4855, hS, hV4851, hr4852, hz4853, hM⟩ := hI
      rw [slices_stableCmpFunc_huff_packet__b6e1_c92d.l4] at hM
      refine wp_seq <| wp_seq <| wp_region_list <| st1 hS (mv rfl) rfl fun a w hS => st1 hS (mv rfl) rfl fun a w hS => st1 hS (bin rfl rfl rfl) rfl fun a w hS => wpList_nil <| then_n <| s_cond hS rfl hM (fun hb4857 hM => ?_) (fun hb4857 hM => ?_)
      ·refine wp_skip ?_
       refine then_n <| wp_block <| wp_seq <| wp_region_list <| st1 hS (mv rfl) rfl fun a w hS => st1 hS (mv rfl) rfl fun a w hS => st1 hS (mv rfl) rfl fun a w hS => st1 hS (mv rfl) rfl fun a w hS => st1 hS (bin rfl rfl rfl) rfl fun a w hS => st1 hS (mv rfl) rfl fun a w hS => st1 hS (mv rfl) rfl fun a w hS => s_call hS rfl Tryd.call100 (slices_symMergeCmpFunc_huff_packet__b6e1_b35e_c hG K data4849 a_4854 (w64 (a_4854 + blockSize4824)) b_4855 p3485 A3486 c3487 rw4848 f4850 hr4852 hV4851 (hS.st.part 2 [0, 1] (by kernel_rfl)) (wp_bind hM) (fun rw4858 data4859 f4860 w hM h4861 h4862 h4863 hst => s_back hS.ev hst.appF rfl fun hS => ?_))
       replace hS : Ss _ _ _ H [p3485, f4860] F _ _ := hS
       have hz4864 := Eq.trans h4863 hz4853
       replace hS := hS.re 0 (u := .slice A3486 rw4848.length c3487) (v := .slice A3486 rw4858.length c3487) rfl (by rw [h4863])
       replace hS := hS.re 36 (u := .slice A3486 rw4848.length c3487) (v := .slice A3486 rw4858.length c3487) rfl (by rw [h4863])
       refine wpList_nil <| then_n <| wp_seq <| wp_region_list <| st1 hS (mv rfl) rfl fun a w hS => st1 hS (asg rfl) rfl fun a w hS => wpList_nil <| then_n <| wp_region_list <| st1 hS (mv rfl) rfl fun a w hS => st1 hS (mv rfl) rfl fun a w hS => st1 hS (bin rfl rfl rfl) rfl fun a w hS => st1 hS (bin rfl rfl rfl) rfl fun a w hS => st1x (v := Value.int .i64) (x0 := (w64 (b_4855 + (w64 ((2 : Int) * blockSize4824))))) hS (asg rfl) rfl fun b_4865 a w hz hS => ?_
       have hM := lt_to hz hM; clear hz
       refine wpList_nil <| blk_n (then_n ?_)
       exact hJ4866 _ _ ⟨rw4858, data4859, f4860, b_4855, b_4865, hS.to [0, 1] (by kernel_rfl) ⟨rfl, rfl, rfl, rfl, rfl, rfl, trivial⟩, h4861, h4862, hz4864, hM⟩
      ·refine wp_exit ?_
       refine then_ex (then_ex (blk_same (then_n ?_)))
       exact hJ4874 _ _ ⟨rw4848, data4849, f4850, a_4854, hS.to [0, 1] (by kernel_rfl) ⟨rfl, rfl, rfl, rfl, rfl, trivial⟩, hV4851, hr4852, hz4853, hM⟩
    ·intro a w hI
     obtain ⟨rw4867, data4868, f4869, a_4873, hS, hV4870, hr4871, hz4872, hM⟩ := hI
     rw [slices_stableCmpFunc_huff_packet__b6e1_c92d.j5] at hM
     refine wp_seq <| wp_seq <| wp_region_list <| st1 hS (mv rfl) rfl fun a w hS => st1 hS (mv rfl) rfl fun a w hS => st1 hS (bin rfl rfl rfl) rfl fun a w hS => st1x (v := Value.int .i64) (x0 := (w64 (a_4873 + blockSize4824))) hS (asg rfl) rfl fun m4875 a w hz hS => ?_
     have hM := lt_to hz hM; clear hz
     refine wpList_nil <| then_n <| wp_seq <| wp_region_list <| st1 hS (mv rfl) rfl fun a w hS => st1 hS (mv rfl) rfl fun a w hS => st1 hS (bin rfl rfl rfl) rfl fun a w hS => wpList_nil <| then_n <| s_cond hS rfl hM (fun hb4876 hM => ?_) (fun hb4876 hM => ?_)
     ·refine wp_region_list ?_
      refine st1 hS (mv rfl) rfl fun a w hS => st1 hS (mv rfl) rfl fun a w hS => st1 hS (mv rfl) rfl fun a w hS => st1 hS (mv rfl) rfl fun a w hS => st1 hS (mv rfl) rfl fun a w hS => s_call hS rfl Tryd.call100 (slices_symMergeCmpFunc_huff_packet__b6e1_b35e_c hG K data4868 a_4873 m4875 n_3492 p3485 A3486 c3487 rw4867 f4869 hr4871 hV4870 (hS.st.part 2 [0, 1] (by kernel_rfl)) (wp_bind hM) (fun rw4877 data4878 f4879 w hM h4880 h4881 h4882 hst => s_back hS.ev hst.appF rfl fun hS => ?_))
      replace hS : Ss _ _ _ H [p3485, f4879] F _ _ := hS
      have hz4883 := Eq.trans h4882 hz4872
      replace hS := hS.re 0 (u := .slice A3486 rw4867.length c3487) (v := .slice A3486 rw4877.length c3487) rfl (by rw [h4882])
      replace hS := hS.re 55 (u := .slice A3486 rw4867.length c3487) (v := .slice A3486 rw4877.length c3487) rfl (by rw [h4882])
      refine wpList_nil <| then_n <| wp_region_list <| st1 hS (mv rfl) rfl fun a w hS => st1 hS (bin rfl rfl rfl) rfl fun a w hS => st1x (v := Value.int .i64) (x0 := (w64 (blockSize4824 * (2 : Int)))) hS (asg rfl) rfl fun blockSize4884 a w hz hS => ?_
      have hM := lt_to hz hM; clear hz
      refine wpList_nil <| blk_n (then_n ?_)
      exact hJ4886 _ _ ⟨rw4877, data4878, f4879, blockSize4884, hS.to [0, 1] (by kernel_rfl) ⟨rfl, rfl, rfl, rfl, trivial⟩, h4880, h4881, hz4883, hM⟩
     ·refine wp_skip ?_
      refine then_n <| wp_region_list <| st1 hS (mv rfl) rfl fun a w hS => st1 hS (bin rfl rfl rfl) rfl fun a w hS => st1x (v := Value.int .i64) (x0 := (w64 (blockSize4824 * (2 : Int)))) hS (asg rfl) rfl fun blockSize4885 a w hz hS => ?_
      have hM := lt_to hz hM; clear hz
      refine wpList_nil <| blk_n (then_n ?_)
      exact hJ4886 _ _ ⟨rw4867, data4868, f4869, blockSize4885, hS.to [0, 1] (by kernel_rfl) ⟨rfl, rfl, rfl, rfl, trivial⟩, hV4870, hr4871, hz4872, hM⟩
   ·refine wp_exit ?_
    refine then_ex (then_ex (blk_same ?_))
    exact s_end (rs := []) hS rfl rfl (hret rw4818 data4819 f4820 w (wp_ok hM) hV4821 hr4822 hz4823 (hS.st.pick [0, 1] (by kernel_rfl)))

theorem slices_SortStableFunc___huff_packet_huff_packet__b6e1_f734_c {H : Imm} {F : List Frag} {w : World} {R : Ending → World → Prop} {kr : (List T_huff_packet) → Prop} {kp : Value → Prop} (hG : Gl H) (K : Nat) (x3474 : List T_huff_packet) (p3475 : Frag) (A3476 : Option Addr) (c3477 : Nat) (rw3478 : List (Row 2)) (f3480 : Frag) (hr3479 : RelL (R_huff_packet p3475) x3474 rw3478) (hV3481 : Vec 112 (Row.v (sz := 2)) 2 A3476 rw3478 c3477 f3480)
    (hS : St w H [p3475, f3480] F) (hm : (slices_SortStableFunc___huff_packet_huff_packet__b6e1_f734.m K x3474).wp kr kp)
    (hret : ∀ (rw4900 : List (Row 2)) (x4901 : (List T_huff_packet)) (f4902 : Frag) (w : World), kr x4901 → (Vec 112 (Row.v (sz := 2)) 2 A3476 rw4900 c3477 f4902) → (RelL (R_huff_packet p3475) x4901 rw4900) → (rw4900.length = rw3478.length) → St w H [p3475, f4902] F → R (.returned (.tuple ⟨[]⟩)) w) :
    Calls Tryd.prog 56 ⟨[.slice A3476 rw3478.length c3477, fnv 84 [] []]⟩ w R := by
 refine enter Tryd.func56 rfl Tryd.ntmps56 rfl hS fun a w hS => ?_
 have hM := hm; clear hm
 rw [slices_SortStableFunc___huff_packet_huff_packet__b6e1_f734.m] at hM
 have hs3482 : ∀ q ∈ p3475, q ∈ p3475 := fun _ h => h
 have hz3483 : rw3478.length = rw3478.length := rfl
 refine wp_region_list <| st1 hS (mv rfl) rfl fun a w hS => st1 hS (mv rfl) rfl fun a w hS => st1 hS (ovE (v' := .int .i64 (x3474.length : Int)) (lenV rfl Tryd.runUnderlying110) (by rw [hr3479.len])) rfl fun a w hS => st1 hS (mv rfl) rfl fun a w hS => s_call hS rfl Tryd.call81 (slices_stableCmpFunc_huff_packet__b6e1_c92d_c hG K x3474 (x3474.length : Int) p3475 A3476 c3477 rw3478 f3480 hr3479 hV3481 (hS.st.part 2 [0, 1] (by kernel_rfl)) (wp_bind hM) (fun rw4893 data4894 f4895 w hM h4896 h4897 h4898 hst => s_back hS.ev hst.appF rfl fun hS => ?_))
 replace hS : Ss _ _ _ H [p3475, f4895] F _ _ := hS
 have hz4899 := Eq.trans h4898 hz3483
 replace hS := hS.re 0 (u := .slice A3476 rw3478.length c3477) (v := .slice A3476 rw4893.length c3477) rfl (by rw [h4898])
 replace hS := hS.re 4 (u := .slice A3476 rw3478.length c3477) (v := .slice A3476 rw4893.length c3477) rfl (by rw [h4898])
 replace hS := hS.re 5 (u := .slice A3476 rw3478.length c3477) (v := .slice A3476 rw4893.length c3477) rfl (by rw [h4898])
 refine wpList_nil ?_
 exact s_end (rs := []) hS rfl rfl (hret rw4893 data4894 f4895 w (wp_ok hM) h4896 h4897 hz4899 (hS.st.pick [0, 1] (by kernel_rfl)))

theorem huff_merged_c {H : Imm} {F : List Frag} {w : World} {R : Ending → World → Prop} {kr : (List T_huff_packet) → Prop} {kp : Value → Prop} (hG : Gl H) (K : Nat) (a_3309 : List T_huff_packet) (b_3317 : List T_huff_packet) (p3310 : Frag) (A3311 : Option Addr) (c3312 : Nat) (rw3313 : List (Row 2)) (A3318 : Option Addr) (c3319 : Nat) (rw3320 : List (Row 2)) (hr3314 : RelL (R_huff_packet p3310) a_3309 rw3313) (hp3315 : Pl p3310 (Row.v (sz := 2)) A3311 rw3313) (hc3316 : rw3313.length ≤ c3312) (hr3321 : RelL (R_huff_packet p3310) b_3317 rw3320) (hp3322 : Pl p3310 (Row.v (sz := 2)) A3318 rw3320) (hc3323 : rw3320.length ≤ c3319)
    (hS : St w H [p3310] F) (hm : (huff_merged.m K a_3309 b_3317).wp kr kp)
    (hret : ∀ (p4912 : Frag) (A4914 : Option Addr) (c4915 : Nat) (rw4916 : List (Row 2)) (x4917 : (List T_huff_packet)) (f4918 : Frag) (w : World), kr x4917 → (∀ q ∈ p3310, q ∈ p4912) → (Vec 112 (Row.v (sz := 2)) 2 A4914 rw4916 c4915 f4918) → (RelL (R_huff_packet p4912) x4917 rw4916) → St w H [p4912, f4918] F → R (.returned (.slice A4914 rw4916.length c4915)) w)
    (hpan : ∀ v w, kp v → St w H [] F → R (.panicked [⟨v, false, false⟩]) w) :
    Calls Tryd.prog 59 ⟨[.slice A3311 rw3313.length c3312, .slice A3318 rw3320.length c3319]⟩ w R := by
 refine enter Tryd.func59 rfl Tryd.ntmps59 rfl hS fun a w hS => ?_
 have hM := hm; clear hm
 rw [huff_merged.m] at hM
 have hs3324 : ∀ q ∈ p3310, q ∈ p3310 := fun _ h => h
 refine wp_seq <| wp_region_list <| st1 hS (asg rfl) rfl fun a w hS => ?_
 obtain ⟨f3325, hV3326, hS⟩ := hS.nilV 112 (Row.v (sz := 2)) 2
 have hr3327 : RelL (R_huff_packet p3310) ([] : List T_huff_packet) ([] : List (Row 2)) := RelL.nil
 refine wpList_nil <| then_n <| wp_seq <| wp_region_list <| st1 hS (mv rfl) rfl fun a w hS => st1 hS (mv rfl) rfl fun a w hS => ?_
 obtain ⟨rw3333, hrw⟩ : ∃ r, r = ([(⟨[.slice A3311 rw3313.length c3312], by simp, by simp [Value.oneCell']⟩ : Row 1), (⟨[.slice A3318 rw3320.length c3319], by simp, by simp [Value.oneCell']⟩ : Row 1)] : List (Row 1)) := ⟨_, rfl⟩
 have hr3332 : RelL (R_s_huff_packet p3310) ([a_3309, b_3317] : List (List T_huff_packet)) rw3333 := by rw [hrw]; exact (RelL.cons (show R_s_huff_packet p3310 _ _ from ⟨A3311, c3312, rw3313, rfl, hr3314, hp3315, hc3316⟩) (RelL.cons (show R_s_huff_packet p3310 _ _ from ⟨A3318, c3319, rw3320, rfl, hr3321, hp3322, hc3323⟩) RelL.nil))
 refine bsl (g := (Row.v (sz := 1))) rw3333 [.slice A3311 rw3313.length c3312, .slice A3318 rw3320.length c3319] hS Tryd.runUnderlying165 Tryd.sizeOf110 X.el110 rfl rfl rfl (by simp [Value.cells]) (by rw [hrw]; rfl) (by rw [hrw]; rfl) rfl rfl rfl fun w A3328 c3329 f3330 hV3331 hS => ?_
 clear hrw
 replace hS := hS.front [0, 2, 1] (by kernel_rfl)
 obtain ⟨p3334, hs3335, hs3336, hS⟩ := hS.poolF
 have hc3338 := hV3331.cap Row.len rfl
 have hp3337 := hV3331.pl.mono hs3335
 replace hp3315 := hp3315.mono hs3336
 replace hp3322 := hp3322.mono hs3336
 replace hr3314 := RelL.mono (fun _ _ h => R_huff_packet.mono hs3336 h) hr3314
 replace hr3321 := RelL.mono (fun _ _ h => R_huff_packet.mono hs3336 h) hr3321
 replace hr3327 := RelL.mono (fun _ _ h => R_huff_packet.mono hs3336 h) hr3327
 replace hr3332 := RelL.mono (fun _ _ h => R_s_huff_packet.mono hs3336 h) hr3332
 replace hs3324 := fun q h => hs3336 q (hs3324 q h)
 refine s_call hS rfl Tryd.call83 (slices_Concat___huff_packet_huff_packet__c hG K ([a_3309, b_3317] : List (List T_huff_packet)) p3334 A3328 c3329 rw3333 hr3332 hp3337 hc3338 (hS.st.part 1 [0, 1] (by kernel_rfl)) (wp_bind hM) (fun p3465 A3466 c3467 rw3468 x3469 f3470 w hM h3471 h3472 h3473 hst => s_back hS.ev hst.appF rfl fun hS => ?_) (fun v w hk hst => s_pan (then_pan (⟨hS.ev.defs, hpan _ _ hk hst.appF.frame⟩))))
 replace hS : Ss _ _ _ H [p3465, f3470, f3325] F _ _ := hS
 replace hp3315 := hp3315.mono h3471
 replace hp3322 := hp3322.mono h3471
 replace hp3337 := hp3337.mono h3471
 replace hr3314 := RelL.mono (fun _ _ h => R_huff_packet.mono h3471 h) hr3314
 replace hr3321 := RelL.mono (fun _ _ h => R_huff_packet.mono h3471 h) hr3321
 replace hr3327 := RelL.mono (fun _ _ h => R_huff_packet.mono h3471 h) hr3327
 replace hr3332 := RelL.mono (fun _ _ h => R_s_huff_packet.mono h3471 h) hr3332
 replace hs3324 := fun q h => h3471 q (hs3324 q h)
 refine st1 hS (asg rfl) rfl fun a w hS => wpList_nil <| then_n <| wp_seq <| wp_region_list <| st1 hS (mv rfl) rfl fun a w hS => s_call hS rfl Tryd.call56 (slices_SortStableFunc___huff_packet_huff_packet__b6e1_f734_c hG K x3469 p3465 A3466 c3467 rw3468 f3470 h3473 h3472 (hS.st.part 2 [0, 1, 2] (by kernel_rfl)) (wp_bind hM) (fun rw4906 x4907 f4908 w hM h4909 h4910 h4911 hst => s_back hS.ev hst.appF rfl fun hS => ?_))
 replace hS : Ss _ _ _ H [p3465, f4908, f3325] F _ _ := hS
 replace hS := hS.re 5 (u := .slice A3466 rw3468.length c3467) (v := .slice A3466 rw4906.length c3467) rfl (by rw [h4911])
 replace hS := hS.re 9 (u := .slice A3466 rw3468.length c3467) (v := .slice A3466 rw4906.length c3467) rfl (by rw [h4911])
 replace hS := hS.re 10 (u := .slice A3466 rw3468.length c3467) (v := .slice A3466 rw4906.length c3467) rfl (by rw [h4911])
 refine wpList_nil <| then_n <| wp_seq <| wp_region_list <| st1 hS (mv rfl) rfl fun a w hS => st1 hS (asg rfl) rfl fun a w hS => wpList_nil <| then_n <| wp_ret ?_
 exact s_ret (rs := [4]) hS rfl rfl (hret p3465 A3466 c3467 rw4906 x4907 f4908 w (wp_ok hM) hs3324 h4909 h4910 (hS.st.pick [0, 1] (by kernel_rfl)))

theorem huff_Lengths_c {H : Imm} {F : List Frag} {w : World} {R : Ending → World → Prop} {kr : ((List Int) × Int) → Prop} {kp : Value → Prop} (hG : Gl H) (K : Nat) (often1408 : List Int) (most1413 : Int) (A1409 : Option Addr) (c1410 : Nat) (hr1411 : Rdl H [] F (ci .i64) A1409 often1408) (hc1412 : often1408.length ≤ c1410)
    (hS : St w H [] F) (hm : (huff_Lengths.m K often1408 most1413).wp kr kp)
    (hret : ∀ (A5135 : Option Addr) (c5136 : Nat) (x5137 : (List Int)) (f5138 : Frag) (x5140 : Int) (w : World), kr (x5137, x5140) → (Vec 3 (ci .i64) 1 A5135 x5137 c5136 f5138) → St w H [f5138] F → R (.returned (.tuple ⟨[.slice A5135 x5137.length c5136, .int .i64 x5140]⟩)) w)
    (hpan : ∀ v w, kp v → St w H [] F → R (.panicked [⟨v, false, false⟩]) w) :
    Calls Tryd.prog 40 ⟨[.slice A1409 often1408.length c1410, .int .i64 most1413]⟩ w R := by
 refine enter Tryd.func40 rfl Tryd.ntmps40 rfl hS fun a w hS => ?_
 have hM := hm; clear hm
 rw [huff_Lengths.m] at hM
 refine wp_seq <| wp_region_list <| st1 hS (asg rfl) rfl fun a w hS => ?_
 obtain ⟨f1414, hV1415, hS⟩ := hS.nilV 3 (ci .i64) 1
 refine st1 hS (asg rfl) rfl fun a w hS => wpList_nil <| then_n <| wp_seq <| wp_seq <| wp_region_list <| st1 hS (mv rfl) rfl fun a w hS => st1 hS (bin rfl rfl rfl) rfl fun a w hS => st1 hS (mv rfl) rfl fun a w hS => g_op 2 false 17 (b := (decide (most1413 < (1 : Int)))) (r := (decide (most1413 > (15 : Int)))) hS rfl rfl rfl rfl rfl rfl rfl (fun hb a w hS K hK => ?_) rfl fun a w hS => ?_
 ·refine st1g hS rfl rfl rfl hb (mv rfl) rfl fun a w hS => ?_
  refine st1g hS rfl rfl rfl hb (bin rfl rfl rfl) rfl fun a w hS => ?_
  exact wpList_nil (hK _ _ (hS.up 2 rfl rfl))
 refine st1 hS (mv rfl) rfl fun a w hS => g_op 3 false 21 (b := ((decide (most1413 < (1 : Int))) || (decide (most1413 > (15 : Int))))) (r := (decide ((often1408.length : Int) > (320 : Int)))) hS rfl rfl rfl rfl rfl rfl rfl (fun hb a w hS K hK => ?_) rfl fun a w hS => ?_
 ·refine st1g hS rfl rfl rfl hb (mv rfl) rfl fun a w hS => ?_
  refine st1g hS rfl rfl rfl hb (lenV rfl Tryd.runUnderlying45) rfl fun a w hS => st1g hS rfl rfl rfl hb (bin rfl rfl rfl) rfl fun a w hS => ?_
  exact wpList_nil (hK _ _ (hS.up 3 rfl rfl))
 refine st1 hS (mv rfl) rfl fun a w hS => seg_cutJ (fun a w => ∃ (v1442 : Bool), Ss 109 [] [(0, .slice A1409 often1408.length c1410), (1, .int .i64 most1413), (29, .bool v1442)] H [] F a w ∧ (huff_Lengths.j1 K often1408 most1413 v1442).wp kr kp) 3 (fun J1443 hJ1443 => ?_) ?_
 ·refine ifB (b := (((decide (most1413 < (1 : Int))) || (decide (most1413 > (15 : Int)))) || (decide ((often1408.length : Int) > (320 : Int))))) hM (fun hb1416 hM => ?_) (fun hb1416 hM => ?_)
  ·replace hS := hS.re 25 (v := .bool true) rfl (congrArg Value.bool hb1416)
   replace hS := hS.re 26 (v := .bool true) rfl (congrArg Value.bool hb1416)
   refine skips 2 hS rfl fun a w hS => st1 hS (pk rfl rfl rfl) rfl fun a w hS => wpList_nil <| then_n ?_
   exact hJ1443 _ _ ⟨true, hS.to [] (by kernel_rfl) ⟨rfl, rfl, rfl, trivial⟩, hM⟩
  ·replace hS := hS.re 25 (v := .bool false) rfl (congrArg Value.bool hb1416)
   replace hS := hS.re 26 (v := .bool false) rfl (congrArg Value.bool hb1416)
   refine st1g hS rfl rfl rfl rfl (mv rfl) rfl fun a w hS => unguard hS rfl rfl rfl rfl <| s_call hS rfl Tryd.call54 (slices_ContainsFunc___int_int__5d67_c hG K often1408 A1409 c1410 (hr1411.app _) hc1412 (hS.st.part 0 [0] (by kernel_rfl)) (wp_bind hM) (fun x1441 w hM  hst => s_back hS.ev hst.appF rfl fun hS => ?_))
   replace hS : Ss _ _ _ H [f1414] F _ _ := hS
   refine st1 hS (pk rfl rfl rfl) rfl fun a w hS => wpList_nil <| then_n ?_
   exact hJ1443 _ _ ⟨x1441, hS.to [] (by kernel_rfl) ⟨rfl, rfl, rfl, trivial⟩, hM⟩
 ·intro a w hI
  obtain ⟨v1442, hS, hM⟩ := hI
  rw [huff_Lengths.j1] at hM
  refine wpList_nil <| then_n <| s_cond hS rfl hM (fun hb1444 hM => ?_) (fun hb1444 hM => ?_)
  ·refine wp_seq ?_
   refine wp_region_list <| st1 hS (asg rfl) rfl fun a w hS => ?_
   obtain ⟨f1445, hV1446, hS⟩ := hS.nilV 3 (ci .i64) 1
   refine st1 hS (asg rfl) rfl fun a w hS => wpList_nil <| then_n <| wp_ret <| then_ret ?_
   exact s_ret (rs := [4, 5]) hS rfl rfl (hret none (0) ([] : List Int) f1445 (1 : Int) w (wp_ok hM) hV1446 (hS.st.pick [0] (by kernel_rfl)))
  ·refine wp_skip ?_
   refine then_n <| wp_seq <| wp_region_list <| st1 hS (asg rfl) rfl fun a w hS => ?_
   obtain ⟨p1449, hS⟩ := hS.pool0
   obtain ⟨f1447, hV1448, hS⟩ := hS.nilV 112 (Row.v (sz := 2)) 2
   have hr1450 : RelL (R_huff_packet p1449) ([] : List T_huff_packet) ([] : List (Row 2)) := RelL.nil
   refine wpList_nil <| then_n <| seq_joinJ (fun a w => ∃ (p1527 : Frag) (A1528 : Option Addr) (c1529 : Nat) (rw1530 : List (Row 2)) (single1531 : (List T_huff_packet)) (f1532 : Frag), Ss 109 [] [(0, .slice A1409 often1408.length c1410), (1, .int .i64 most1413), (6, .slice A1528 rw1530.length c1529)] H [p1527, f1532] F a w ∧ (Vec 112 (Row.v (sz := 2)) 2 A1528 rw1530 c1529 f1532) ∧ (RelL (R_huff_packet p1527) single1531 rw1530) ∧ (huff_Lengths.j3 K often1408 most1413 single1531).wp kr kp) (fun J1535 hJ1535 => ?_) ?_
   ·refine wp_seq ?_
    refine wp_region_list <| st1 hS (mv rfl) rfl fun a w hS => st1 hS (lenV rfl Tryd.runUnderlying45) rfl fun a w hS => st1 hS (mv rfl) rfl fun a w hS => wpList_nil <| then_n <| wp_block <| s_loopJ (fun k1498 a w => ∃ (p1489 : Frag) (A1490 : Option Addr) (c1491 : Nat) (rw1492 : List (Row 2)) (single1493 : (List T_huff_packet)) (f1494 : Frag) (v1497 : Int), Ss 109 [] [(0, .slice A1409 often1408.length c1410), (1, .int .i64 most1413), (6, .slice A1490 rw1492.length c1491), (30, .slice A1409 often1408.length c1410), (31, .int .i64 (often1408.length : Int)), (32, .int .i64 v1497)] H [p1489, f1494] F a w ∧ (Vec 112 (Row.v (sz := 2)) 2 A1490 rw1492 c1491 f1494) ∧ (RelL (R_huff_packet p1489) single1493 rw1492) ∧ (huff_Lengths.l2 K often1408 most1413 k1498 single1493 v1497).wp kr kp) K ?_ ?_ ?_
    ·exact ⟨p1449, none, 0, ([] : List (Row 2)), ([] : List T_huff_packet), f1447, (0 : Int), hS.to [1, 0] (by kernel_rfl) ⟨rfl, rfl, rfl, rfl, rfl, rfl, trivial⟩, hV1448, hr1450, hM⟩
    ·intro a w hI; obtain ⟨_, _, _, _, _, _, _, _, _, _, hM⟩ := hI; exact wp_fail hM
    ·intro k1498 a w hI J1526 hJ1526
     obtain ⟨p1489, A1490, c1491, rw1492, single1493, f1494, v1497, hS, hV1495, hr1496, hM⟩ := hI
     rw [huff_Lengths.l2] at hM
     refine wp_seq <| wp_region_list <| st1 hS (bin rfl rfl rfl) rfl fun a w hS => wpList_nil <| then_n <| wp_seq <| s_cond hS rfl hM (fun hb1499 hM => ?_) (fun hb1499 hM => ?_)
     ·refine wp_skip ?_
      refine then_n <| wp_seq <| wp_block <| wp_seq <| wp_region_list <| st1 hS (mv rfl) rfl fun a w hS => ?_
      obtain ⟨hk1500, hM⟩ := wp_chk hM
      refine st1 hS (ixV rfl rfl Tryd.runUnderlying45 Tryd.sizeOf3 hr1411.wk (fun _ => rfl) rfl hk1500) rfl fun a w hS => st1 hS (ldV0 rfl hr1411.wk (fun _ => rfl) hk1500 rfl Tryd.isAgg3) rfl fun a w hS => st1 hS (asg rfl) rfl fun a w hS => st1x (v := Value.int .i64) (x0 := (rd often1408 v1497)) hS (asg rfl) rfl fun n_1501 a w hz hS => ?_
      have hM := lt_to hz hM; clear hz
      refine wpList_nil <| then_n <| wp_seq <| wp_region_list <| st1 hS (mv rfl) rfl fun a w hS => st1 hS (bin rfl rfl rfl) rfl fun a w hS => wpList_nil <| then_n <| s_cond hS rfl hM (fun hb1502 hM => ?_) (fun hb1502 hM => ?_)
      ·refine wp_region_list ?_
       refine st1 hS (mv rfl) rfl fun a w hS => st1 hS (mv rfl) rfl fun a w hS => st1 hS (mv rfl) rfl fun a w hS => bsl (g := (ci .i64)) ([v1497] : List Int) [.int .i64 v1497] hS Tryd.runUnderlying45 Tryd.sizeOf3 X.el3 rfl rfl rfl (by simp [Value.cells]) rfl rfl rfl rfl rfl fun w A1503 c1504 f1505 hV1506 hS => st1 hS (bld ([.int .i64 n_1501, .slice A1503 ([v1497] : List Int).length c1504]) [(0, 1), (1, 1)] Tryd.zeroValue112 Tryd.runUnderlying112 (by intro w; simp [Tryd.sizeOf3, Tryd.sizeOf45]) rfl rfl) rfl fun a w hS => ?_
       replace hS := hS.front [0, 1, 2] (by kernel_rfl)
       obtain ⟨p1507, hs1508, hs1509, hS⟩ := hS.poolF
       have hc1511 := hV1506.cap (fun _ => rfl) rfl
       have hp1510 := hV1506.pl.mono hs1508
       replace hr1496 := RelL.mono (fun _ _ h => R_huff_packet.mono hs1509 h) hr1496
       obtain ⟨rw1517, hrw⟩ : ∃ r, r = ([(⟨[.int .i64 n_1501, .slice A1503 ([v1497] : List Int).length c1504], by simp, by simp [Value.oneCell']⟩ : Row 2)] : List (Row 2)) := ⟨_, rfl⟩
       have hr1516 : RelL (R_huff_packet p1507) ([(T_huff_packet.mk n_1501 ([v1497] : List Int))] : List T_huff_packet) rw1517 := by rw [hrw]; exact (RelL.cons (show R_huff_packet p1507 _ _ from ⟨A1503, c1504, rfl, hp1510, hc1511⟩) RelL.nil)
       refine bsl (g := (Row.v (sz := 2))) rw1517 [.agg ⟨[.int .i64 n_1501, .slice A1503 ([v1497] : List Int).length c1504]⟩] hS Tryd.runUnderlying110 Tryd.sizeOf112 X.el112 rfl rfl rfl (by simp [Value.cells]) (by rw [hrw]; rfl) (by rw [hrw]; rfl) rfl rfl rfl fun w A1512 c1513 f1514 hV1515 hS => ?_
       clear hrw
       obtain ⟨hk1518, hM⟩ := wp_chk hM
       refine apV (ys := rw1517) 2 hS rfl rfl hV1495 rfl (hV1515.rd (i := 0) rfl) Tryd.runUnderlying110 Tryd.runUnderlying110 X.el112 Row.len rfl one_row (hr1496.room hr1516 hk1518) rfl fun rw1523 w A1519 c1520 f1521 hz hV1522 hS => ?_
       obtain ⟨zs1524, hzm⟩ := nameE (single1493 ++ ([(T_huff_packet.mk n_1501 ([v1497] : List Int))] : List T_huff_packet))
       replace hM := lt_to hzm hM
       have hr1525 := RelL.append hr1496 hr1516
       rw [← hz, ← hzm] at hr1525; clear hz hzm
       refine st1 hS (asg rfl) rfl fun a w hS => wpList_nil <| blk_n (then_n ?_)
       refine wp_region_list <| st1 hS (bin rfl rfl rfl) rfl fun a w hS => st1 hS (mv rfl) rfl fun a w hS => wpList_nil <| then_n ?_
       exact hJ1526 _ _ ⟨p1507, A1519, c1520, rw1523, zs1524, f1521, (w64 (v1497 + (1 : Int))), hS.to [1, 2] (by kernel_rfl) ⟨rfl, rfl, rfl, rfl, rfl, rfl, trivial⟩, hV1522, hr1525, hM⟩
      ·refine wp_skip ?_
       refine blk_n (then_n ?_)
       refine wp_region_list <| st1 hS (bin rfl rfl rfl) rfl fun a w hS => st1 hS (mv rfl) rfl fun a w hS => wpList_nil <| then_n ?_
       exact hJ1526 _ _ ⟨p1489, A1490, c1491, rw1492, single1493, f1494, (w64 (v1497 + (1 : Int))), hS.to [0, 1] (by kernel_rfl) ⟨rfl, rfl, rfl, rfl, rfl, rfl, trivial⟩, hV1495, hr1496, hM⟩
     ·refine wp_exit ?_
      refine then_ex (then_ex (blk_same (then_n ?_)))
      exact hJ1535 _ _ ⟨p1489, A1490, c1491, rw1492, single1493, f1494, hS.to [0, 1] (by kernel_rfl) ⟨rfl, rfl, rfl, trivial⟩, hV1495, hr1496, hM⟩
   ·intro a w hI
    obtain ⟨p1527, A1528, c1529, rw1530, single1531, f1532, hS, hV1533, hr1534, hM⟩ := hI
    rw [huff_Lengths.j3] at hM
    refine wp_seq <| wp_seq <| wp_region_list <| st1 hS (mv rfl) rfl fun a w hS => st1 hS (ovE (v' := .int .i64 (single1531.length : Int)) (lenV rfl Tryd.runUnderlying110) (by rw [hr1534.len])) rfl fun a w hS => st1 hS (mv rfl) rfl fun a w hS => ?_
    obtain ⟨hk1536, hM⟩ := wp_chk hM
    refine st1 hS (shl rfl rfl hk1536) rfl fun a w hS => st1 hS (bin rfl rfl rfl) rfl fun a w hS => wpList_nil <| then_n <| s_cond hS rfl hM (fun hb1537 hM => ?_) (fun hb1537 hM => ?_)
    ·refine wp_seq ?_
     refine wp_region_list <| st1 hS (asg rfl) rfl fun a w hS => ?_
     obtain ⟨f1538, hV1539, hS⟩ := hS.nilV 3 (ci .i64) 1
     refine st1 hS (asg rfl) rfl fun a w hS => wpList_nil <| then_n <| wp_ret <| then_ret ?_
     exact s_ret (rs := [4, 5]) hS rfl rfl (hret none (0) ([] : List Int) f1538 (1 : Int) w (wp_ok hM) hV1539 (hS.st.pick [0] (by kernel_rfl)))
    ·refine wp_skip ?_
     refine then_n <| wp_seq <| wp_region_list <| st1 hS (mv rfl) rfl fun a w hS => st1 hS (lenV rfl Tryd.runUnderlying45) rfl fun a w hS => ?_
     obtain ⟨hk1540, hM⟩ := wp_chk hM
     refine mkS (g := (ci .i64)) (m := (often1408.length : Int)) (0 : Int) hS rfl rfl (by simp) Tryd.runUnderlying45 X.el3 (fun w => ⟨_, Tryd.zeroValue3 w, rfl⟩) (fun _ => rfl) rfl rfl hk1540 rfl fun zs1545 w A1541 c1542 f1543 hz hV1544 hS => ?_
     have hM := lt_to hz hM; clear hz
     refine st1 hS (asg rfl) rfl fun a w hS => wpList_nil <| then_n <| seq_joinJ (fun a w => ∃ (out1559 : (List Int)) (f1560 : Frag), Ss 109 [] [(1, .int .i64 most1413), (6, .slice A1528 rw1530.length c1529), (9, .slice A1541 out1559.length c1542)] H [p1527, f1532, f1560] F a w ∧ (Vec 3 (ci .i64) 1 A1541 out1559 c1542 f1560) ∧ (huff_Lengths.j4 K most1413 single1531 out1559).wp kr kp) (fun J1562 hJ1562 => ?_) ?_
     ·refine wp_seq ?_
      refine wp_region_list <| st1 hS (mv rfl) rfl fun a w hS => st1 hS (ovE (v' := .int .i64 (single1531.length : Int)) (lenV rfl Tryd.runUnderlying110) (by rw [hr1534.len])) rfl fun a w hS => st1 hS (bin rfl rfl rfl) rfl fun a w hS => wpList_nil <| then_n <| s_cond hS rfl hM (fun hb1546 hM => ?_) (fun hb1546 hM => ?_)
      ·refine wp_region_list ?_
       refine st1 hS (mv rfl) rfl fun a w hS => st1 hS (mv rfl) rfl fun a w hS => ?_
       obtain ⟨hk1547, hM⟩ := wp_chk hM
       refine st1 hS (ixV rfl rfl Tryd.runUnderlying110 Tryd.sizeOf112 (hV1533.rd (i := 2) rfl) Row.len rfl (hr1534.inb hk1547)) rfl fun a w hS => st1 hS (fadV rfl (hV1533.rd (i := 2) rfl) Row.len rfl (hr1534.inb hk1547) Tryd.runUnderlying112 rfl Tryd.sizeOf45 rfl) rfl fun a w hS => ?_
       obtain ⟨A1548, c1549, hw1552, hp1550, hc1551⟩ := hr1534.get hk1547
       refine st1 hS (ldV 1 rfl (hV1533.rd (i := 2) rfl) Row.len (hr1534.inb hk1547) (by rw [show Row.v (rd rw1530 (0 : Int)) = _ from hw1552]; rfl) Tryd.isAgg45) rfl fun a w hS => ?_
       obtain ⟨hk1553, hM⟩ := wp_chk hM
       refine st1 hS (ixV rfl rfl Tryd.runUnderlying45 Tryd.sizeOf3 (hp1550.rd (i := 1) rfl) (fun _ => rfl) rfl hk1553) rfl fun a w hS => st1 hS (ldV0 rfl (hp1550.rd (i := 1) rfl) (fun _ => rfl) hk1553 rfl Tryd.isAgg3) rfl fun a w hS => ?_
       obtain ⟨hk1554, hM⟩ := wp_chk hM
       refine st1 hS (ixV rfl rfl Tryd.runUnderlying45 Tryd.sizeOf3 (hV1544.rd (i := 0) rfl) (fun _ => rfl) rfl hk1554) rfl fun a w hS => stV (i := (rd ((rd single1531 (0 : Int)).symbols_) (0 : Int))) (sz := 1) 0 0 ((1 : Int)) hS rfl rfl hV1544 rfl Tryd.sizeOf3 (one_t3 (1 : Int)) (fun _ => rfl) hk1554 rfl rfl fun zs1557 w f1555 hz hz1558 hV1556 hS => ?_
       have hM := lt_to hz hM; clear hz
       replace hS := hS.re 9 (u := .slice A1541 zs1545.length c1542) (v := .slice A1541 zs1557.length c1542) rfl (by rw [hz1558])
       replace hS := hS.re 54 (u := .slice A1541 zs1545.length c1542) (v := .slice A1541 zs1557.length c1542) rfl (by rw [hz1558])
       replace hS := hS.re 58 (u := .slice A1541 zs1545.length c1542) (v := .slice A1541 zs1557.length c1542) rfl (by rw [hz1558])
       refine wpList_nil <| then_n ?_
       exact hJ1562 _ _ ⟨zs1557, f1555, hS.to [1, 2, 0] (by kernel_rfl) ⟨rfl, rfl, rfl, trivial⟩, hV1556, hM⟩
      ·refine wp_skip ?_
       refine then_n ?_
       exact hJ1562 _ _ ⟨zs1545, f1543, hS.to [1, 2, 0] (by kernel_rfl) ⟨rfl, rfl, rfl, trivial⟩, hV1544, hM⟩
     ·intro a w hI
      obtain ⟨out1559, f1560, hS, hV1561, hM⟩ := hI
      rw [huff_Lengths.j4] at hM
      refine wp_seq <| wp_seq <| wp_region_list <| st1 hS (mv rfl) rfl fun a w hS => st1 hS (ovE (v' := .int .i64 (single1531.length : Int)) (lenV rfl Tryd.runUnderlying110) (by rw [hr1534.len])) rfl fun a w hS => st1 hS (bin rfl rfl rfl) rfl fun a w hS => wpList_nil <| then_n <| s_cond hS rfl hM (fun hb1563 hM => ?_) (fun hb1563 hM => ?_)
      ·refine wp_seq ?_
       refine wp_region_list <| st1 hS (mv rfl) rfl fun a w hS => st1 hS (asg rfl) rfl fun a w hS => st1 hS (asg rfl) rfl fun a w hS => wpList_nil <| then_n <| wp_ret <| then_ret ?_
       exact s_ret (rs := [4, 5]) hS rfl rfl (hret A1541 c1542 out1559 f1560 (0 : Int) w (wp_ok hM) hV1561 (hS.st.pick [2] (by kernel_rfl)))
      ·refine wp_skip ?_
       refine then_n <| wp_seq <| wp_region_list <| st1 hS (mv rfl) rfl fun a w hS => s_call hS rfl Tryd.call56 (slices_SortStableFunc___huff_packet_huff_packet__b6e1_f289_c hG K single1531 p1527 A1528 c1529 rw1530 f1532 hr1534 hV1533 (hS.st.part 2 [0, 1, 2] (by kernel_rfl)) (wp_bind hM) (fun rw3009 x3010 f3011 w hM h3012 h3013 h3014 hst => s_back hS.ev hst.appF rfl fun hS => ?_))
       replace hS : Ss _ _ _ H [p1527, f3011, f1560] F _ _ := hS
       replace hS := hS.re 6 (u := .slice A1528 rw1530.length c1529) (v := .slice A1528 rw3009.length c1529) rfl (by rw [h3014])
       replace hS := hS.re 66 (u := .slice A1528 rw1530.length c1529) (v := .slice A1528 rw3009.length c1529) rfl (by rw [h3014])
       replace hS := hS.re 70 (u := .slice A1528 rw1530.length c1529) (v := .slice A1528 rw3009.length c1529) rfl (by rw [h3014])
       refine wpList_nil <| then_n <| wp_seq <| wp_region_list <| st1 hS (mv rfl) rfl fun a w hS => st1 hS (asg rfl) rfl fun a w hS => wpList_nil <| then_n <| seq_joinJ (fun a w => ∃ (p5019 : Frag) (A5023 : Option Addr) (c5024 : Nat) (rw5025 : List (Row 2)) (row5026 : (List T_huff_packet)), Ss 109 [] [(6, .slice A1528 rw3009.length c1529), (9, .slice A1541 out1559.length c1542), (10, .slice A5023 rw5025.length c5024)] H [p5019, f1560] F a w ∧ (RelL (R_huff_packet p5019) x3010 rw3009) ∧ (Pl p5019 (Row.v (sz := 2)) A1528 rw3009) ∧ (rw3009.length ≤ c1529) ∧ (RelL (R_huff_packet p5019) row5026 rw5025) ∧ (Pl p5019 (Row.v (sz := 2)) A5023 rw5025) ∧ (rw5025.length ≤ c5024) ∧ (huff_Lengths.j6 K out1559 x3010 row5026).wp kr kp) (fun J5030 hJ5030 => ?_) ?_
       ·refine wp_seq ?_
        refine wp_region_list <| st1 hS (mv rfl) rfl fun a w hS => st1 hS (bin rfl rfl rfl) rfl fun a w hS => st1 hS (mv rfl) rfl fun a w hS => wpList_nil <| then_n <| wp_block <| s_loopJ (fun k4978 a w => ∃ (p4966 : Frag) (A4970 : Option Addr) (c4971 : Nat) (rw4972 : List (Row 2)) (row4973 : (List T_huff_packet)) (v4977 : Int), Ss 109 [] [(6, .slice A1528 rw3009.length c1529), (9, .slice A1541 out1559.length c1542), (10, .slice A4970 rw4972.length c4971), (74, .int .i64 (w64 (most1413 - (1 : Int)))), (75, .int .i64 v4977)] H [p4966, f1560] F a w ∧ (RelL (R_huff_packet p4966) x3010 rw3009) ∧ (Pl p4966 (Row.v (sz := 2)) A1528 rw3009) ∧ (rw3009.length ≤ c1529) ∧ (RelL (R_huff_packet p4966) row4973 rw4972) ∧ (Pl p4966 (Row.v (sz := 2)) A4970 rw4972) ∧ (rw4972.length ≤ c4971) ∧ (huff_Lengths.l5 K most1413 out1559 x3010 k4978 row4973 v4977).wp kr kp) K ?_ ?_ ?_
        ·replace hS := hS.front [1, 0, 2] (by kernel_rfl)
         obtain ⟨p5009, hs5010, hs5011, hS⟩ := hS.poolF
         have hc5013 := h3012.cap Row.len rfl
         have hp5012 := h3012.pl.mono hs5010
         replace h3013 := RelL.mono (fun _ _ h => R_huff_packet.mono hs5011 h) h3013
         exact ⟨p5009, A1528, c1529, rw3009, x3010, (0 : Int), hS.to [0, 1] (by kernel_rfl) ⟨rfl, rfl, rfl, rfl, rfl, trivial⟩, h3013, hp5012, hc5013, h3013, hp5012, hc5013, hM⟩
        ·intro a w hI; obtain ⟨_, _, _, _, _, _, _, _, _, _, _, _, _, hM⟩ := hI; exact wp_fail hM
        ·intro k4978 a w hI J5008 hJ5008
         obtain ⟨p4966, A4970, c4971, rw4972, row4973, v4977, hS, hr4967, hp4968, hc4969, hr4974, hp4975, hc4976, hM⟩ := hI
         rw [huff_Lengths.l5] at hM
         refine wp_seq <| wp_region_list <| st1 hS (bin rfl rfl rfl) rfl fun a w hS => wpList_nil <| then_n <| wp_seq <| s_cond hS rfl hM (fun hb4979 hM => ?_) (fun hb4979 hM => ?_)
         ·refine wp_skip ?_
          refine then_n <| wp_seq <| wp_block <| wp_region_list <| st1 hS (mv rfl) rfl fun a w hS => st1 hS (mv rfl) rfl fun a w hS => s_call hS rfl Tryd.call60 (huff_pairs_c hG K row4973 p4966 A4970 c4971 rw4972 hr4974 hp4975 hc4976 (hS.st.part 1 [0, 1] (by kernel_rfl)) (wp_bind hM) (fun p4980 A4981 c4982 rw4983 x4984 f4985 w hM h4986 h4987 h4988 hst => s_back hS.ev hst.appF rfl fun hS => ?_) (fun v w hk hst => s_pan (blk_pan (then_pan (then_pan (blk_pan (then_pan (⟨hS.ev.defs, hpan _ _ hk hst.appF.frame⟩))))))))
          replace hS : Ss _ _ _ H [p4980, f4985, f1560] F _ _ := hS
          replace hp4968 := hp4968.mono h4986
          replace hp4975 := hp4975.mono h4986
          replace hr4967 := RelL.mono (fun _ _ h => R_huff_packet.mono h4986 h) hr4967
          replace hr4974 := RelL.mono (fun _ _ h => R_huff_packet.mono h4986 h) hr4974
          replace hS := hS.front [1, 0, 2] (by kernel_rfl)
          obtain ⟨p4989, hs4990, hs4991, hS⟩ := hS.poolF
          have hc4993 := h4987.cap Row.len rfl
          have hp4992 := h4987.pl.mono hs4990
          replace h4988 := RelL.mono (fun _ _ h => R_huff_packet.mono hs4991 h) h4988
          replace hp4968 := hp4968.mono hs4991
          replace hp4975 := hp4975.mono hs4991
          replace hr4967 := RelL.mono (fun _ _ h => R_huff_packet.mono hs4991 h) hr4967
          replace hr4974 := RelL.mono (fun _ _ h => R_huff_packet.mono hs4991 h) hr4974
          refine s_call hS rfl Tryd.call59 (huff_merged_c hG K x3010 x4984 p4989 A1528 c1529 rw3009 A4981 c4982 rw4983 hr4967 hp4968 hc4969 h4988 hp4992 hc4993 (hS.st.part 1 [0, 1] (by kernel_rfl)) (wp_bind hM) (fun p4994 A4995 c4996 rw4997 x4998 f4999 w hM h5000 h5001 h5002 hst => s_back hS.ev hst.appF rfl fun hS => ?_) (fun v w hk hst => s_pan (blk_pan (then_pan (then_pan (blk_pan (then_pan (⟨hS.ev.defs, hpan _ _ hk hst.appF.frame⟩))))))))
          replace hS : Ss _ _ _ H [p4994, f4999, f1560] F _ _ := hS
          replace h4988 := RelL.mono (fun _ _ h => R_huff_packet.mono h5000 h) h4988
          replace hp4968 := hp4968.mono h5000
          replace hp4975 := hp4975.mono h5000
          replace hp4992 := hp4992.mono h5000
          replace hr4967 := RelL.mono (fun _ _ h => R_huff_packet.mono h5000 h) hr4967
          replace hr4974 := RelL.mono (fun _ _ h => R_huff_packet.mono h5000 h) hr4974
          refine st1 hS (asg rfl) rfl fun a w hS => wpList_nil <| blk_n (then_n ?_)
          refine wp_region_list <| st1 hS (bin rfl rfl rfl) rfl fun a w hS => st1 hS (mv rfl) rfl fun a w hS => wpList_nil <| then_n ?_
          replace hS := hS.front [1, 0, 2] (by kernel_rfl)
          obtain ⟨p5014, hs5015, hs5016, hS⟩ := hS.poolF
          have hc5018 := h5001.cap Row.len rfl
          have hp5017 := h5001.pl.mono hs5015
          replace h4988 := RelL.mono (fun _ _ h => R_huff_packet.mono hs5016 h) h4988
          replace h5002 := RelL.mono (fun _ _ h => R_huff_packet.mono hs5016 h) h5002
          replace hp4968 := hp4968.mono hs5016
          replace hp4975 := hp4975.mono hs5016
          replace hp4992 := hp4992.mono hs5016
          replace hr4967 := RelL.mono (fun _ _ h => R_huff_packet.mono hs5016 h) hr4967
          replace hr4974 := RelL.mono (fun _ _ h => R_huff_packet.mono hs5016 h) hr4974
          exact hJ5008 _ _ ⟨p5014, A4995, c4996, rw4997, x4998, (w64 (v4977 + (1 : Int))), hS.to [0, 1] (by kernel_rfl) ⟨rfl, rfl, rfl, rfl, rfl, trivial⟩, hr4967, hp4968, hc4969, h5002, hp5017, hc5018, hM⟩
         ·refine wp_exit ?_
          refine then_ex (then_ex (blk_same (then_n ?_)))
          exact hJ5030 _ _ ⟨p4966, A4970, c4971, rw4972, row4973, hS.to [0, 1] (by kernel_rfl) ⟨rfl, rfl, rfl, trivial⟩, hr4967, hp4968, hc4969, hr4974, hp4975, hc4976, hM⟩
       ·intro a w hI
        obtain ⟨p5019, A5023, c5024, rw5025, row5026, hS, hr5020, hp5021, hc5022, hr5027, hp5028, hc5029, hM⟩ := hI
        rw [huff_Lengths.j6] at hM
        refine wp_seq <| wp_seq <| wp_region_list <| st1 hS (mv rfl) rfl fun a w hS => st1 hS (mv rfl) rfl fun a w hS => st1 hS (ovE (v' := .int .i64 (x3010.length : Int)) (lenV rfl Tryd.runUnderlying110) (by rw [hr5020.len])) rfl fun a w hS => st1 hS (bin rfl rfl rfl) rfl fun a w hS => st1 hS (bin rfl rfl rfl) rfl fun a w hS => ?_
        obtain ⟨hk5031, hM⟩ := wp_chk hM
        refine slVx (g := (Row.v (sz := 2))) hS rfl Tryd.runUnderlying110 Tryd.sizeOf112 lo0 (hiS rfl) Row.len hc5029 (hr5027.subok hk5031) rfl fun rw5032 A5034 c5035 a w hz hd5036 hc5037 hS => ?_
        obtain ⟨zs5033, hzm⟩ := nameE (sub row5026 (0 : Int) (w64 ((w64 ((2 : Int) * (x3010.length : Int))) - (2 : Int))))
        replace hM := lt_to hzm hM
        have hr5038 := hr5027.sub (0 : Int) (w64 ((w64 ((2 : Int) * (x3010.length : Int))) - (2 : Int))) (w64 ((w64 ((2 : Int) * (x3010.length : Int))) - (2 : Int))) rfl
        rw [← hz, ← hzm] at hr5038; clear hz hzm
        refine st1 hS (ovE (v' := .int .i64 (zs5033.length : Int)) (lenV rfl Tryd.runUnderlying110) (by rw [hr5038.len])) rfl fun a w hS => st1 hS (mv rfl) rfl fun a w hS => wpList_nil <| then_n <| wp_block <| s_loopJ (fun k5091 a w => ∃ (out5087 : (List Int)) (f5088 : Frag) (v5090 : Int), Ss 109 [] [(9, .slice A1541 out5087.length c1542), (87, .slice A5034 rw5032.length c5035), (88, .int .i64 (zs5033.length : Int)), (89, .int .i64 v5090)] H [f5088, p5019] F a w ∧ (Vec 3 (ci .i64) 1 A1541 out5087 c1542 f5088) ∧ (huff_Lengths.l7 K zs5033 k5091 out5087 v5090).wp kr kp) K ?_ ?_ ?_
        ·exact ⟨out1559, f1560, (0 : Int), hS.to [1, 0] (by kernel_rfl) ⟨rfl, rfl, rfl, rfl, trivial⟩, hV1561, hM⟩
        ·intro a w hI; obtain ⟨_, _, _, _, _, hM⟩ := hI; exact wp_fail hM
        ·intro k5091 a w hI J5134 hJ5134
         obtain ⟨out5087, f5088, v5090, hS, hV5089, hM⟩ := hI
         rw [huff_Lengths.l7] at hM
         refine wp_seq <| wp_region_list <| st1 hS (bin rfl rfl rfl) rfl fun a w hS => wpList_nil <| then_n <| wp_seq <| s_cond hS rfl hM (fun hb5092 hM => ?_) (fun hb5092 hM => ?_)
         ·refine wp_skip ?_
          refine then_n <| wp_seq <| wp_block <| wp_seq <| wp_region_list ?_
          obtain ⟨hk5093, hM⟩ := wp_chk hM
          refine st1 hS (ixV rfl rfl Tryd.runUnderlying110 Tryd.sizeOf112 (hd5036 _ _ _ (hp5028.rd (i := 1) rfl)) Row.len rfl (hr5038.inb hk5093)) rfl fun a w hS => ?_
          obtain ⟨A5094, c5095, hw5098, hp5096, hc5097⟩ := hr5038.get hk5093
          refine st1 hS (ovE (ldVA rfl (hd5036 _ _ _ (hp5028.rd (i := 1) rfl)) Row.len (hr5038.inb hk5093) Tryd.isAgg112 Tryd.sizeOf112 rfl) (congrArg (fun l => Value.agg ⟨l⟩) hw5098)) rfl fun a w hS => alc ([.int .i64 (0 : Int), .slice none 0 0]) hS Tryd.zeroValue112 rfl rfl fun w b5099 f5100 hB5101 hS => ?_
          obtain ⟨f5102, hV5103, hS⟩ := hS.nilV 3 (ci .i64) 1
          refine stB 1 ([.int .i64 ((rd zs5033 v5090).often_), .slice A5094 ((rd zs5033 v5090).symbols_).length c5095]) ([.int .i64 ((rd zs5033 v5090).often_), .slice A5094 ((rd zs5033 v5090).symbols_).length c5095]) hS rfl rfl hB5101 rfl rfl Tryd.sizeOf112 (by simp [Value.oneCell']) (Nat.le_of_ble_eq_true rfl) rfl fun w f5104 hB5105 hS => wpList_nil <| then_n <| wp_seq <| wp_region_list <| st1 hS (fad rfl Tryd.runUnderlying112 rfl Tryd.sizeOf45 rfl) rfl fun a w hS => st1 hS (ldb 1 rfl hB5105 rfl rfl Tryd.isAgg45) rfl fun a w hS => st1 hS (lenV rfl Tryd.runUnderlying45) rfl fun a w hS => st1 hS (mv rfl) rfl fun a w hS => wpList_nil <| then_n <| wp_block <| s_loopJ (fun k5124 a w => ∃ (out5120 : (List Int)) (f5121 : Frag) (v5123 : Int), Ss 109 [] [(9, .slice A1541 out5120.length c1542), (87, .slice A5034 rw5032.length c5035), (88, .int .i64 (zs5033.length : Int)), (89, .int .i64 v5090), (94, .slice A5094 ((rd zs5033 v5090).symbols_).length c5095), (95, .int .i64 (((rd zs5033 v5090).symbols_).length : Int)), (96, .int .i64 v5123)] H [f5121, p5019] F a w ∧ (Vec 3 (ci .i64) 1 A1541 out5120 c1542 f5121) ∧ (huff_Lengths.l8 K (huff_Lengths.l7 K zs5033 k5091) zs5033 v5090 k5124 out5120 v5123).wp kr kp) K ?_ ?_ ?_
          ·exact ⟨out5087, f5088, (0 : Int), hS.to [2, 3] (by kernel_rfl) ⟨rfl, rfl, rfl, rfl, rfl, rfl, rfl, trivial⟩, hV5089, hM⟩
          ·intro a w hI; obtain ⟨_, _, _, _, _, hM⟩ := hI; exact wp_fail hM
          ·intro k5124 a w hI J5133 hJ5133
           obtain ⟨out5120, f5121, v5123, hS, hV5122, hM⟩ := hI
           rw [huff_Lengths.l8] at hM
           refine wp_seq <| wp_region_list <| st1 hS (bin rfl rfl rfl) rfl fun a w hS => wpList_nil <| then_n <| wp_seq <| s_cond hS rfl hM (fun hb5125 hM => ?_) (fun hb5125 hM => ?_)
           ·refine wp_skip ?_
            refine then_n <| wp_seq <| wp_block <| wp_seq <| wp_region_list ?_
            obtain ⟨hk5126, hM⟩ := wp_chk hM
            refine st1 hS (ixV rfl rfl Tryd.runUnderlying45 Tryd.sizeOf3 (hp5096.rd (i := 1) rfl) (fun _ => rfl) rfl hk5126) rfl fun a w hS => st1 hS (ldV0 rfl (hp5096.rd (i := 1) rfl) (fun _ => rfl) hk5126 rfl Tryd.isAgg3) rfl fun a w hS => st1x (v := Value.int .i64) (x0 := (rd ((rd zs5033 v5090).symbols_) v5123)) hS (asg rfl) rfl fun s5127 a w hz hS => ?_
            have hM := lt_to hz hM; clear hz
            refine wpList_nil <| then_n <| wp_region_list <| st1 hS (mv rfl) rfl fun a w hS => st1 hS (mv rfl) rfl fun a w hS => ?_
            obtain ⟨hk5128, hM⟩ := wp_chk hM
            refine st1 hS (ixV rfl rfl Tryd.runUnderlying45 Tryd.sizeOf3 (hV5122.rd (i := 0) rfl) (fun _ => rfl) rfl hk5128) rfl fun a w hS => st1 hS (ldV0 rfl (hV5122.rd (i := 0) rfl) (fun _ => rfl) hk5128 rfl Tryd.isAgg3) rfl fun a w hS => st1 hS (bin rfl rfl rfl) rfl fun a w hS => st1 hS (ixV rfl rfl Tryd.runUnderlying45 Tryd.sizeOf3 (hV5122.rd (i := 0) rfl) (fun _ => rfl) rfl hk5128) rfl fun a w hS => stV (i := s5127) (sz := 1) 0 0 ((w64 ((rd out5120 s5127) + (1 : Int)))) hS rfl rfl hV5122 rfl Tryd.sizeOf3 (one_t3 (w64 ((rd out5120 s5127) + (1 : Int)))) (fun _ => rfl) hk5128 rfl rfl fun zs5131 w f5129 hz hz5132 hV5130 hS => ?_
            have hM := lt_to hz hM; clear hz
            replace hS := hS.re 9 (u := .slice A1541 out5120.length c1542) (v := .slice A1541 zs5131.length c1542) rfl (by rw [hz5132])
            replace hS := hS.re 100 (u := .slice A1541 out5120.length c1542) (v := .slice A1541 zs5131.length c1542) rfl (by rw [hz5132])
            refine wpList_nil <| blk_n (then_n ?_)
            refine wp_region_list <| st1 hS (bin rfl rfl rfl) rfl fun a w hS => st1 hS (mv rfl) rfl fun a w hS => wpList_nil <| then_n ?_
            exact hJ5133 _ _ ⟨zs5131, f5129, (w64 (v5123 + (1 : Int))), hS.to [0, 1] (by kernel_rfl) ⟨rfl, rfl, rfl, rfl, rfl, rfl, rfl, trivial⟩, hV5130, hM⟩
           ·refine wp_exit ?_
            refine then_ex (then_ex (blk_same (blk_n (then_n ?_))))
            refine wp_region_list <| st1 hS (bin rfl rfl rfl) rfl fun a w hS => st1 hS (mv rfl) rfl fun a w hS => wpList_nil <| then_n ?_
            exact hJ5134 _ _ ⟨out5120, f5121, (w64 (v5090 + (1 : Int))), hS.to [0, 1] (by kernel_rfl) ⟨rfl, rfl, rfl, rfl, trivial⟩, hV5122, hM⟩
         ·refine wp_exit ?_
          refine then_ex (then_ex (blk_same (then_n ?_)))
          refine wp_seq <| wp_region_list <| st1 hS (mv rfl) rfl fun a w hS => st1 hS (asg rfl) rfl fun a w hS => st1 hS (asg rfl) rfl fun a w hS => wpList_nil <| then_n <| wp_ret ?_
          exact s_ret (rs := [4, 5]) hS rfl rfl (hret A1541 c1542 out5087 f5088 (0 : Int) w (wp_ok hM) hV5089 (hS.st.pick [0] (by kernel_rfl)))

theorem deflate_own_fd7d_c {H : Imm} {F : List Frag} {w : World} {R : Ending → World → Prop} {kr : ((List Int) × (List Int)) → Prop} {kp : Value → Prop} (hG : Gl H) (K : Nat) (often1346 : List Int) (A1347 : Option Addr) (c1348 : Nat) (f1349 : Frag) (hV1350 : Vec 3 (ci .i64) 1 A1347 often1346 c1348 f1349)
    (hS : St w H [f1349] F) (hm : (deflate_own_fd7d.m K often1346).wp kr kp)
    (hret : ∀ (A5147 : Option Addr) (c5148 : Nat) (x5149 : (List Int)) (f5150 : Frag) (often5152 : (List Int)) (f5153 : Frag) (w : World), kr (x5149, often5152) → (Vec 3 (ci .i64) 1 A5147 x5149 c5148 f5150) → (Vec 3 (ci .i64) 1 A1347 often5152 c1348 f5153) → (often5152.length = often1346.length) → St w H [f5150, f5153] F → R (.returned (.slice A5147 x5149.length c5148)) w)
    (hpan : ∀ v w, kp v → St w H [] F → R (.panicked [⟨v, false, false⟩]) w) :
    Calls Tryd.prog 38 ⟨[.slice A1347 often1346.length c1348]⟩ w R := by
 refine enter Tryd.func38 rfl Tryd.ntmps38 rfl hS fun a w hS => ?_
 have hM := hm; clear hm
 rw [deflate_own_fd7d.m] at hM
 have hz1351 : often1346.length = often1346.length := rfl
 refine wp_seq <| wp_region_list <| st1 hS (asg rfl) rfl fun a w hS => ?_
 obtain ⟨f1352, hV1353, hS⟩ := hS.nilV 3 (ci .i64) 1
 refine wpList_nil <| then_n <| wp_seq <| wp_region_list <| st1 hS (asg rfl) rfl fun a w hS => wpList_nil <| then_n <| seq_joinJ (fun a w => ∃ (n_1362 : Int), Ss 43 [] [(0, .slice A1347 often1346.length c1348), (3, .int .i64 n_1362)] H [f1349] F a w ∧ (deflate_own_fd7d.j2 K often1346 n_1362).wp kr kp) (fun J1363 hJ1363 => ?_) ?_
 ·refine wp_seq ?_
  refine wp_region_list <| st1 hS (mv rfl) rfl fun a w hS => st1 hS (lenV rfl Tryd.runUnderlying45) rfl fun a w hS => st1 hS (mv rfl) rfl fun a w hS => wpList_nil <| then_n <| wp_block <| s_loopJ (fun k1356 a w => ∃ (n_1354 : Int) (v1355 : Int), Ss 43 [] [(0, .slice A1347 often1346.length c1348), (3, .int .i64 n_1354), (9, .slice A1347 often1346.length c1348), (10, .int .i64 (often1346.length : Int)), (11, .int .i64 v1355)] H [f1349] F a w ∧ (deflate_own_fd7d.l1 K often1346 k1356 n_1354 v1355).wp kr kp) K ?_ ?_ ?_
  ·exact ⟨(0 : Int), (0 : Int), hS.to [1] (by kernel_rfl) ⟨rfl, rfl, rfl, rfl, rfl, trivial⟩, hM⟩
  ·intro a w hI; obtain ⟨_, _, _, hM⟩ := hI; exact wp_fail hM
  ·intro k1356 a w hI J1361 hJ1361
   obtain ⟨n_1354, v1355, hS, hM⟩ := hI
   rw [deflate_own_fd7d.l1] at hM
   refine wp_seq <| wp_region_list <| st1 hS (bin rfl rfl rfl) rfl fun a w hS => wpList_nil <| then_n <| wp_seq <| s_cond hS rfl hM (fun hb1357 hM => ?_) (fun hb1357 hM => ?_)
   ·refine wp_skip ?_
    refine then_n <| wp_seq <| wp_block <| wp_seq <| wp_region_list ?_
    obtain ⟨hk1358, hM⟩ := wp_chk hM
    refine st1 hS (ixV rfl rfl Tryd.runUnderlying45 Tryd.sizeOf3 (hV1350.rd (i := 0) rfl) (fun _ => rfl) rfl hk1358) rfl fun a w hS => st1 hS (ldV0 rfl (hV1350.rd (i := 0) rfl) (fun _ => rfl) hk1358 rfl Tryd.isAgg3) rfl fun a w hS => st1x (v := Value.int .i64) (x0 := (rd often1346 v1355)) hS (asg rfl) rfl fun k_1359 a w hz hS => ?_
    have hM := lt_to hz hM; clear hz
    refine wpList_nil <| then_n <| wp_region_list <| st1 hS (mv rfl) rfl fun a w hS => st1 hS (mv rfl) rfl fun a w hS => st1 hS (minI rfl rfl) rfl fun a w hS => st1 hS (bin rfl rfl rfl) rfl fun a w hS => st1x (v := Value.int .i64) (x0 := (w64 (n_1354 + (if (1 : Int) < k_1359 then (1 : Int) else k_1359)))) hS (asg rfl) rfl fun n_1360 a w hz hS => ?_
    have hM := lt_to hz hM; clear hz
    refine wpList_nil <| blk_n (then_n ?_)
    refine wp_region_list <| st1 hS (bin rfl rfl rfl) rfl fun a w hS => st1 hS (mv rfl) rfl fun a w hS => wpList_nil <| then_n ?_
    exact hJ1361 _ _ ⟨n_1360, (w64 (v1355 + (1 : Int))), hS.to [0] (by kernel_rfl) ⟨rfl, rfl, rfl, rfl, rfl, trivial⟩, hM⟩
   ·refine wp_exit ?_
    refine then_ex (then_ex (blk_same (then_n ?_)))
    exact hJ1363 _ _ ⟨n_1354, hS.to [0] (by kernel_rfl) ⟨rfl, rfl, trivial⟩, hM⟩
 ·intro a w hI
  obtain ⟨n_1362, hS, hM⟩ := hI
  rw [deflate_own_fd7d.j2] at hM
  refine seq_joinJ (fun a w => ∃ (often1403 : (List Int)) (f1404 : Frag), Ss 43 [] [(0, .slice A1347 often1403.length c1348)] H [f1404] F a w ∧ (Vec 3 (ci .i64) 1 A1347 often1403 c1348 f1404) ∧ (often1403.length = often1346.length) ∧ (deflate_own_fd7d.j4 K often1403).wp kr kp) (fun J1407 hJ1407 => ?_) ?_
  ·refine wp_seq ?_
   refine wp_region_list <| st1 hS (asg rfl) rfl fun a w hS => wpList_nil <| then_n <| wp_block <| s_loopJ (fun k1390 a w => ∃ (often1384 : (List Int)) (f1385 : Frag) (n_1388 : Int) (i1389 : Int), Ss 43 [] [(0, .slice A1347 often1384.length c1348), (3, .int .i64 n_1388), (6, .int .i64 i1389)] H [f1385] F a w ∧ (Vec 3 (ci .i64) 1 A1347 often1384 c1348 f1385) ∧ (often1384.length = often1346.length) ∧ (deflate_own_fd7d.l3 K k1390 often1384 n_1388 i1389).wp kr kp) K ?_ ?_ ?_
   ·exact ⟨often1346, f1349, n_1362, (0 : Int), hS.to [0] (by kernel_rfl) ⟨rfl, rfl, rfl, trivial⟩, hV1350, hz1351, hM⟩
   ·intro a w hI; obtain ⟨_, _, _, _, _, _, _, hM⟩ := hI; exact wp_fail hM
   ·intro k1390 a w hI J1402 hJ1402
    obtain ⟨often1384, f1385, n_1388, i1389, hS, hV1386, hz1387, hM⟩ := hI
    rw [deflate_own_fd7d.l3] at hM
    refine wp_seq <| wp_seq <| wp_region_list <| st1 hS (mv rfl) rfl fun a w hS => st1 hS (bin rfl rfl rfl) rfl fun a w hS => wpList_nil <| then_n <| s_cond hS rfl hM (fun hb1391 hM => ?_) (fun hb1391 hM => ?_)
    ·refine wp_skip ?_
     refine then_n <| wp_seq <| wp_block <| wp_seq <| wp_region_list <| st1 hS (mv rfl) rfl fun a w hS => st1 hS (mv rfl) rfl fun a w hS => ?_
     obtain ⟨hk1392, hM⟩ := wp_chk hM
     refine st1 hS (ixV rfl rfl Tryd.runUnderlying45 Tryd.sizeOf3 (hV1386.rd (i := 0) rfl) (fun _ => rfl) rfl hk1392) rfl fun a w hS => st1 hS (ldV0 rfl (hV1386.rd (i := 0) rfl) (fun _ => rfl) hk1392 rfl Tryd.isAgg3) rfl fun a w hS => st1 hS (bin rfl rfl rfl) rfl fun a w hS => wpList_nil <| then_n <| s_cond hS rfl hM (fun hb1393 hM => ?_) (fun hb1393 hM => ?_)
     ·refine wp_seq ?_
      refine wp_region_list <| st1 hS (mv rfl) rfl fun a w hS => st1 hS (mv rfl) rfl fun a w hS => st1 hS (ixV rfl rfl Tryd.runUnderlying45 Tryd.sizeOf3 (hV1386.rd (i := 0) rfl) (fun _ => rfl) rfl hk1392) rfl fun a w hS => st1 hS (ldV0 rfl (hV1386.rd (i := 0) rfl) (fun _ => rfl) hk1392 rfl Tryd.isAgg3) rfl fun a w hS => st1 hS (bin rfl rfl rfl) rfl fun a w hS => st1 hS (ixV rfl rfl Tryd.runUnderlying45 Tryd.sizeOf3 (hV1386.rd (i := 0) rfl) (fun _ => rfl) rfl hk1392) rfl fun a w hS => stV (i := i1389) (sz := 1) 0 0 ((w64 ((rd often1384 i1389) + (1 : Int)))) hS rfl rfl hV1386 rfl Tryd.sizeOf3 (one_t3 (w64 ((rd often1384 i1389) + (1 : Int)))) (fun _ => rfl) hk1392 rfl rfl fun zs1396 w f1394 hz hz1397 hV1395 hS => ?_
      have hM := lt_to hz hM; clear hz
      have hz1398 := Eq.trans hz1397 hz1387
      replace hS := hS.re 0 (u := .slice A1347 often1384.length c1348) (v := .slice A1347 zs1396.length c1348) rfl (by rw [hz1397])
      replace hS := hS.re 24 (u := .slice A1347 often1384.length c1348) (v := .slice A1347 zs1396.length c1348) rfl (by rw [hz1397])
      replace hS := hS.re 29 (u := .slice A1347 often1384.length c1348) (v := .slice A1347 zs1396.length c1348) rfl (by rw [hz1397])
      refine wpList_nil <| then_n <| wp_region_list <| st1 hS (mv rfl) rfl fun a w hS => st1 hS (bin rfl rfl rfl) rfl fun a w hS => st1x (v := Value.int .i64) (x0 := (w64 (n_1388 + (1 : Int)))) hS (asg rfl) rfl fun n_1399 a w hz hS => ?_
      have hM := lt_to hz hM; clear hz
      refine wpList_nil <| blk_n (then_n ?_)
      refine wp_region_list <| st1 hS (mv rfl) rfl fun a w hS => st1 hS (bin rfl rfl rfl) rfl fun a w hS => st1x (v := Value.int .i64) (x0 := (w64 (i1389 + (1 : Int)))) hS (asg rfl) rfl fun i1400 a w hz hS => ?_
      have hM := lt_to hz hM; clear hz
      refine wpList_nil <| then_n ?_
      exact hJ1402 _ _ ⟨zs1396, f1394, n_1399, i1400, hS.to [0] (by kernel_rfl) ⟨rfl, rfl, rfl, trivial⟩, hV1395, hz1398, hM⟩
     ·refine wp_skip ?_
      refine blk_n (then_n ?_)
      refine wp_region_list <| st1 hS (mv rfl) rfl fun a w hS => st1 hS (bin rfl rfl rfl) rfl fun a w hS => st1x (v := Value.int .i64) (x0 := (w64 (i1389 + (1 : Int)))) hS (asg rfl) rfl fun i1401 a w hz hS => ?_
      have hM := lt_to hz hM; clear hz
      refine wpList_nil <| then_n ?_
      exact hJ1402 _ _ ⟨often1384, f1385, n_1388, i1401, hS.to [0] (by kernel_rfl) ⟨rfl, rfl, rfl, trivial⟩, hV1386, hz1387, hM⟩
    ·refine wp_exit ?_
     refine then_ex (then_ex (blk_same (then_n ?_)))
     exact hJ1407 _ _ ⟨often1384, f1385, hS.to [0] (by kernel_rfl) ⟨rfl, trivial⟩, hV1386, hz1387, hM⟩
  ·intro a w hI
   obtain ⟨often1403, f1404, hS, hV1405, hz1406, hM⟩ := hI
   rw [deflate_own_fd7d.j4] at hM
   refine wp_seq <| wp_region_list <| st1 hS (mv rfl) rfl fun a w hS => s_call hS rfl Tryd.call40 (huff_Lengths_c hG K often1403 (15 : Int) A1347 c1348 (hV1405.rdF (i := 0) rfl) (hV1405.cap (fun _ => rfl) rfl) (hS.st.part 0 [0] (by kernel_rfl)) (wp_bind hM) (fun A5141 c5142 x5143 f5144 x5145 w hM h5146 hst => s_back hS.ev hst.appF rfl fun hS => ?_) (fun v w hk hst => s_pan (then_pan (⟨hS.ev.defs, hpan _ _ hk hst.appF.frame⟩))))
   replace hS : Ss _ _ _ H [f5144, f1404] F _ _ := hS
   refine st1 hS (mv rfl) rfl fun a w hS => st1 hS (ex rfl rfl) rfl fun a w hS => st1 hS (ex rfl rfl) rfl fun a w hS => st1 hS (asg rfl) rfl fun a w hS => st1 hS (asg rfl) rfl fun a w hS => wpList_nil <| then_n <| wp_seq <| wp_region_list <| st1 hS (mv rfl) rfl fun a w hS => st1 hS (asg rfl) rfl fun a w hS => wpList_nil <| then_n <| wp_ret ?_
   exact s_ret (rs := [2]) hS rfl rfl (hret A5141 c5142 x5143 f5144 often1403 f1404 w (wp_ok hM) h5146 hV1405 hz1406 (hS.st.pick [0, 1] (by kernel_rfl)))

theorem deflate_packed_c {H : Imm} {F : List Frag} {w : World} {R : Ending → World → Prop} {kr : (List T_deflate_item) → Prop} {kp : Value → Prop} (hG : Gl H) (K : Nat) (row5205 : List Int) (A5206 : Option Addr) (c5207 : Nat) (hr5208 : Rdl H [] F (ci .i64) A5206 row5205) (hc5209 : row5205.length ≤ c5207)
    (hS : St w H [] F) (hm : (deflate_packed.m K row5205).wp kr kp)
    (hret : ∀ (A5366 : Option Addr) (c5367 : Nat) (x5368 : (List T_deflate_item)) (f5369 : Frag) (w : World), kr x5368 → (Vec 75 T_deflate_item.cells 3 A5366 x5368 c5367 f5369) → St w H [f5369] F → R (.returned (.slice A5366 x5368.length c5367)) w) :
    Calls Tryd.prog 39 ⟨[.slice A5206 row5205.length c5207]⟩ w R := by
 refine enter Tryd.func39 rfl Tryd.ntmps39 rfl hS fun a w hS => ?_
 have hM := hm; clear hm
 rw [deflate_packed.m] at hM
 refine wp_seq <| wp_region_list <| st1 hS (asg rfl) rfl fun a w hS => ?_
 obtain ⟨f5210, hV5211, hS⟩ := hS.nilV 75 T_deflate_item.cells 3
 refine wpList_nil <| then_n <| wp_seq <| wp_region_list <| st1 hS (asg rfl) rfl fun a w hS => ?_
 obtain ⟨f5212, hV5213, hS⟩ := hS.nilV 75 T_deflate_item.cells 3
 refine wpList_nil <| then_n <| wp_seq <| wp_seq <| wp_region_list <| st1 hS (asg rfl) rfl fun a w hS => wpList_nil <| then_n <| wp_block <| s_loopJ (fun k5296 a w => ∃ (A5290 : Option Addr) (c5291 : Nat) (out5292 : (List T_deflate_item)) (f5293 : Frag) (i5295 : Int), Ss 93 [] [(0, .slice A5206 row5205.length c5207), (3, .slice A5290 out5292.length c5291), (4, .int .i64 i5295)] H [f5293] F a w ∧ (Vec 75 T_deflate_item.cells 3 A5290 out5292 c5291 f5293) ∧ (deflate_packed.l1 K row5205 k5296 out5292 i5295).wp kr kp) K ?_ ?_ ?_
 ·exact ⟨none, 0, ([] : List T_deflate_item), f5212, (0 : Int), hS.to [0] (by kernel_rfl) ⟨rfl, rfl, rfl, trivial⟩, hV5213, hM⟩
 ·intro a w hI; obtain ⟨_, _, _, _, _, _, _, hM⟩ := hI; exact wp_fail hM
 ·intro k5296 a w hI J5365 hJ5365
  obtain ⟨A5290, c5291, out5292, f5293, i5295, hS, hV5294, hM⟩ := hI
  rw [deflate_packed.l1] at hM
  refine wp_seq <| wp_seq <| wp_region_list <| st1 hS (mv rfl) rfl fun a w hS => st1 hS (mv rfl) rfl fun a w hS => st1 hS (lenV rfl Tryd.runUnderlying45) rfl fun a w hS => st1 hS (bin rfl rfl rfl) rfl fun a w hS => wpList_nil <| then_n <| s_cond hS rfl hM (fun hb5297 hM => ?_) (fun hb5297 hM => ?_)
  ·refine wp_skip ?_
   refine then_n <| wp_block <| wp_seq <| wp_region_list <| st1 hS (asg rfl) rfl fun a w hS => wpList_nil <| then_n <| seq_joinJ (fun a w => ∃ (n_5310 : Int), Ss 93 [] [(0, .slice A5206 row5205.length c5207), (3, .slice A5290 out5292.length c5291), (4, .int .i64 i5295), (5, .int .i64 n_5310)] H [f5293] F a w ∧ (deflate_packed.j4 K (deflate_packed.l1 K row5205 k5296) row5205 out5292 i5295 n_5310).wp kr kp) (fun J5311 hJ5311 => ?_) ?_
   ·refine wp_block ?_
    refine s_loopJ (fun k5299 a w => ∃ (n_5298 : Int), Ss 93 [] [(0, .slice A5206 row5205.length c5207), (3, .slice A5290 out5292.length c5291), (4, .int .i64 i5295), (5, .int .i64 n_5298)] H [f5293] F a w ∧ (deflate_packed.l2 K (deflate_packed.l1 K row5205 k5296) row5205 out5292 i5295 k5299 n_5298).wp kr kp) K ?_ ?_ ?_
    ·exact ⟨(1 : Int), hS.to [0] (by kernel_rfl) ⟨rfl, rfl, rfl, rfl, trivial⟩, hM⟩
    ·intro a w hI; obtain ⟨_, _, hM⟩ := hI; exact wp_fail hM
    ·intro k5299 a w hI J5309 hJ5309
     obtain ⟨n_5298, hS, hM⟩ := hI
     rw [deflate_packed.l2] at hM
     refine wp_seq <| seq_joinJ (fun a w => ∃ (v5305 : Bool), Ss 93 [] [(0, .slice A5206 row5205.length c5207), (3, .slice A5290 out5292.length c5291), (4, .int .i64 i5295), (5, .int .i64 n_5298), (28, .bool v5305)] H [f5293] F a w ∧ (deflate_packed.j3 K (deflate_packed.l1 K row5205 k5296) (deflate_packed.l2 K (deflate_packed.l1 K row5205 k5296) row5205 out5292 i5295 k5299) row5205 out5292 i5295 n_5298 v5305).wp kr kp) (fun J5306 hJ5306 => ?_) ?_
     ·refine ifB (b := (decide ((w64 (i5295 + n_5298)) < (row5205.length : Int)))) hM (fun hb5300 hM => ?_) (fun hb5300 hM => ?_)
      ·obtain ⟨hk5302, hM⟩ := wp_chk hM
       obtain ⟨hk5304, hM⟩ := wp_chk hM
       refine draw_begin (vals := [some (.int .i64 i5295), some (.int .i64 n_5298), some (.int .i64 (w64 (i5295 + n_5298))), some (.slice A5206 row5205.length c5207), some (.int .i64 (row5205.length : Int)), some (.bool true), some (.bool true), some (.slice A5206 row5205.length c5207), some (.int .i64 i5295), some (.int .i64 n_5298), some (.int .i64 (w64 (i5295 + n_5298))), some (slp A5206 (Int.toNat (w64 (i5295 + n_5298)) * 1)), some (.int .i64 (rd row5205 (w64 (i5295 + n_5298)))), some (.slice A5206 row5205.length c5207), some (.int .i64 i5295), some (slp A5206 (Int.toNat i5295 * 1)), some (.int .i64 (rd row5205 i5295)), some (.bool ((rd row5205 (w64 (i5295 + n_5298))) == (rd row5205 i5295))), some (.bool ((rd row5205 (w64 (i5295 + n_5298))) == (rd row5205 i5295)))]) hS mixed rfl ?_
       intro l w ho hcl hA hst
       refine phqE hA hst ho hcl nmust [0, 1, 2, 3, 4, 5, 6, 7, 8, 9, 10, 11, 12, 13, 14, 15, 16, 17, 18] rfl rfl rfl (by exact ⟨nR rfl rfl rfl rfl rfl (by exact ovE (mv rfl) rfl), nR rfl rfl rfl rfl rfl (by exact ovE (mv rfl) rfl), nR rfl rfl rfl rfl rfl (by exact ovE (bin rfl rfl rfl) rfl), nR rfl rfl rfl rfl rfl (by exact ovE (mv rfl) rfl), nR rfl rfl rfl rfl rfl (by exact ovE (lenV rfl Tryd.runUnderlying45) rfl), nR rfl rfl rfl rfl rfl (by exact ovE (bin rfl rfl rfl) (congrArg Value.bool hb5300)), nR rfl rfl rfl rfl rfl (by exact ovE (mv rfl) rfl), nW rfl rfl rfl rfl rfl rfl rfl rfl (by exact ovE (mv rfl) rfl), nW rfl rfl rfl rfl rfl rfl rfl rfl (by exact ovE (mv rfl) rfl), nW rfl rfl rfl rfl rfl rfl rfl rfl (by exact ovE (mv rfl) rfl), nW rfl rfl rfl rfl rfl rfl rfl rfl (by exact ovE (bin rfl rfl rfl) rfl), nW rfl rfl rfl rfl rfl rfl rfl rfl (by exact ovE (ixV rfl rfl Tryd.runUnderlying45 Tryd.sizeOf3 hr5208.wk (fun _ => rfl) rfl hk5302) rfl), nW rfl rfl rfl rfl rfl rfl rfl rfl (by exact ovE (ldV0 rfl hr5208.wk (fun _ => rfl) hk5302 rfl Tryd.isAgg3) rfl), nW rfl rfl rfl rfl rfl rfl rfl rfl (by exact ovE (mv rfl) rfl), nW rfl rfl rfl rfl rfl rfl rfl rfl (by exact ovE (mv rfl) rfl), nW rfl rfl rfl rfl rfl rfl rfl rfl (by exact ovE (ixV rfl rfl Tryd.runUnderlying45 Tryd.sizeOf3 hr5208.wk (fun _ => rfl) rfl hk5304) rfl), nW rfl rfl rfl rfl rfl rfl rfl rfl (by exact ovE (ldV0 rfl hr5208.wk (fun _ => rfl) hk5304 rfl Tryd.isAgg3) rfl), nW rfl rfl rfl rfl rfl rfl rfl rfl (by exact ovE (bin rfl rfl rfl) rfl), nR rfl rfl rfl rfl rfl (by exact ovE (pk rfl rfl rfl) rfl), trivial⟩) fun a w hS => ?_
       replace hS := hS.env2 (e' := [(0, .slice A5206 row5205.length c5207), (3, .slice A5290 out5292.length c5291), (4, .int .i64 i5295), (5, .int .i64 n_5298), (28, .bool ((rd row5205 (w64 (i5295 + n_5298))) == (rd row5205 i5295)))]) ⟨rfl, rfl, rfl, rfl, rfl, trivial⟩
       refine then_n ?_
       exact hJ5306 _ _ ⟨((rd row5205 (w64 (i5295 + n_5298))) == (rd row5205 i5295)), hS.to [0] (by kernel_rfl) ⟨rfl, rfl, rfl, rfl, rfl, trivial⟩, hM⟩
      ·refine draw_begin (vals := [some (.int .i64 i5295), some (.int .i64 n_5298), some (.int .i64 (w64 (i5295 + n_5298))), some (.slice A5206 row5205.length c5207), some (.int .i64 (row5205.length : Int)), some (.bool false), some (.bool false), some (undef), some (undef), some (undef), some (undef), some (undef), some (undef), some (undef), some (undef), some (undef), some (undef), some (undef), some (.bool false)]) hS mixed rfl ?_
       intro l w ho hcl hA hst
       refine phqE hA hst ho hcl nmust [0, 1, 2, 3, 4, 5, 6, 7, 8, 9, 10, 11, 12, 13, 14, 15, 16, 17, 18] rfl rfl rfl (by exact ⟨nR rfl rfl rfl rfl rfl (by exact ovE (mv rfl) rfl), nR rfl rfl rfl rfl rfl (by exact ovE (mv rfl) rfl), nR rfl rfl rfl rfl rfl (by exact ovE (bin rfl rfl rfl) rfl), nR rfl rfl rfl rfl rfl (by exact ovE (mv rfl) rfl), nR rfl rfl rfl rfl rfl (by exact ovE (lenV rfl Tryd.runUnderlying45) rfl), nR rfl rfl rfl rfl rfl (by exact ovE (bin rfl rfl rfl) (congrArg Value.bool hb5300)), nR rfl rfl rfl rfl rfl (by exact ovE (mv rfl) rfl), nS rfl rfl rfl rfl rfl rfl rfl rfl rfl, nS rfl rfl rfl rfl rfl rfl rfl rfl rfl, nS rfl rfl rfl rfl rfl rfl rfl rfl rfl, nS rfl rfl rfl rfl rfl rfl rfl rfl rfl, nS rfl rfl rfl rfl rfl rfl rfl rfl rfl, nS rfl rfl rfl rfl rfl rfl rfl rfl rfl, nS rfl rfl rfl rfl rfl rfl rfl rfl rfl, nS rfl rfl rfl rfl rfl rfl rfl rfl rfl, nS rfl rfl rfl rfl rfl rfl rfl rfl rfl, nS rfl rfl rfl rfl rfl rfl rfl rfl rfl, nS rfl rfl rfl rfl rfl rfl rfl rfl rfl, nR rfl rfl rfl rfl rfl (by exact ovE (pk rfl rfl rfl) rfl), trivial⟩) fun a w hS => ?_
       replace hS := hS.env2 (e' := [(0, .slice A5206 row5205.length c5207), (3, .slice A5290 out5292.length c5291), (4, .int .i64 i5295), (5, .int .i64 n_5298), (28, .bool false)]) ⟨rfl, rfl, rfl, rfl, rfl, trivial⟩
       refine then_n ?_
       exact hJ5306 _ _ ⟨false, hS.to [0] (by kernel_rfl) ⟨rfl, rfl, rfl, rfl, rfl, trivial⟩, hM⟩
     ·intro a w hI
      obtain ⟨v5305, hS, hM⟩ := hI
      rw [deflate_packed.j3] at hM
      refine s_cond hS rfl hM (fun hb5307 hM => ?_) (fun hb5307 hM => ?_)
      ·refine wp_skip ?_
       refine then_n <| wp_block <| wp_region_list <| st1 hS (mv rfl) rfl fun a w hS => st1 hS (bin rfl rfl rfl) rfl fun a w hS => st1x (v := Value.int .i64) (x0 := (w64 (n_5298 + (1 : Int)))) hS (asg rfl) rfl fun n_5308 a w hz hS => ?_
       have hM := lt_to hz hM; clear hz
       refine wpList_nil <| blk_n (then_n ?_)
       exact hJ5309 _ _ ⟨n_5308, hS.to [0] (by kernel_rfl) ⟨rfl, rfl, rfl, rfl, trivial⟩, hM⟩
      ·refine wp_exit ?_
       refine then_ex (then_ex (blk_same (then_n ?_)))
       exact hJ5311 _ _ ⟨n_5298, hS.to [0] (by kernel_rfl) ⟨rfl, rfl, rfl, rfl, trivial⟩, hM⟩
   ·intro a w hI
    obtain ⟨n_5310, hS, hM⟩ := hI
    rw [deflate_packed.j4] at hM
    refine wp_seq <| wp_block <| wp_seq <| wp_region_list <| st1 hS (mv rfl) rfl fun a w hS => st1 hS (mv rfl) rfl fun a w hS => ?_
    obtain ⟨hk5312, hM⟩ := wp_chk hM
    refine st1 hS (ixV rfl rfl Tryd.runUnderlying45 Tryd.sizeOf3 hr5208.wk (fun _ => rfl) rfl hk5312) rfl fun a w hS => st1 hS (ldV0 rfl hr5208.wk (fun _ => rfl) hk5312 rfl Tryd.isAgg3) rfl fun a w hS => st1 hS (bin rfl rfl rfl) rfl fun a w hS => st1 hS (mv rfl) rfl fun a w hS => g_op 2 true 45 (b := ((rd row5205 i5295) == (0 : Int))) (r := (decide (n_5310 ≥ (11 : Int)))) hS rfl rfl rfl rfl rfl rfl rfl (fun hb a w hS K hK => ?_) rfl fun a w hS => ?_
    ·refine st1g hS rfl rfl rfl hb (mv rfl) rfl fun a w hS => ?_
     refine st1g hS rfl rfl rfl hb (bin rfl rfl rfl) rfl fun a w hS => ?_
     exact wpList_nil (hK _ _ (hS.up 2 rfl rfl))
    refine st1x (v := Value.bool) (x0 := (((rd row5205 i5295) == (0 : Int)) && (decide (n_5310 ≥ (11 : Int))))) hS (asg rfl) rfl fun v5313 a w hz hS => ?_
    have hM := lt_to hz hM; clear hz
    refine wpList_nil <| then_n <| s_cond hS rfl hM (fun hb5314 hM => ?_) (fun hb5314 hM => ?_)
    ·refine wp_seq ?_
     refine wp_region_list <| st1 hS (mv rfl) rfl fun a w hS => st1 hS (minI rfl rfl) rfl fun a w hS => st1x (v := Value.int .i64) (x0 := (if (138 : Int) < n_5310 then (138 : Int) else n_5310)) hS (asg rfl) rfl fun n_5315 a w hz hS => ?_
     have hM := lt_to hz hM; clear hz
     refine wpList_nil <| then_n <| wp_region_list <| st1 hS (mv rfl) rfl fun a w hS => st1 hS (mv rfl) rfl fun a w hS => st1 hS (bin rfl rfl rfl) rfl fun a w hS => st1 hS (bld ([.int .i64 (18 : Int), .int .i64 (w64 (n_5315 - (11 : Int))), .int .i64 (7 : Int)]) [(0, 1), (1, 1), (2, 1)] Tryd.zeroValue75 Tryd.runUnderlying75 (by intro w; simp [Tryd.sizeOf3]) rfl rfl) rfl fun a w hS => bsl (g := T_deflate_item.cells) ([(T_deflate_item.mk (18 : Int) (w64 (n_5315 - (11 : Int))) (7 : Int))] : List T_deflate_item) [.agg ⟨[.int .i64 (18 : Int), .int .i64 (w64 (n_5315 - (11 : Int))), .int .i64 (7 : Int)]⟩] hS Tryd.runUnderlying72 Tryd.sizeOf75 X.el75 rfl rfl rfl (by simp [Value.cells]) rfl rfl rfl rfl rfl fun w A5316 c5317 f5318 hV5319 hS => ?_
     obtain ⟨hk5320, hM⟩ := wp_chk hM
     refine apV (ys := ([(T_deflate_item.mk (18 : Int) (w64 (n_5315 - (11 : Int))) (7 : Int))] : List T_deflate_item)) 1 hS rfl rfl hV5294 rfl (hV5319.rd (i := 0) rfl) Tryd.runUnderlying72 Tryd.runUnderlying72 X.el75 (fun _ => rfl) rfl one_t75 hk5320 rfl fun zs5325 w A5321 c5322 f5323 hz hV5324 hS => ?_
     have hM := lt_to hz hM; clear hz
     refine st1 hS (asg rfl) rfl fun a w hS => wpList_nil <| blk_n (then_n ?_)
     refine wp_region_list <| st1 hS (mv rfl) rfl fun a w hS => st1 hS (mv rfl) rfl fun a w hS => st1 hS (bin rfl rfl rfl) rfl fun a w hS => st1x (v := Value.int .i64) (x0 := (w64 (i5295 + n_5315))) hS (asg rfl) rfl fun i5326 a w hz hS => ?_
     have hM := lt_to hz hM; clear hz
     refine wpList_nil <| blk_n (then_n ?_)
     exact hJ5365 _ _ ⟨A5321, c5322, zs5325, f5323, i5326, hS.to [1] (by kernel_rfl) ⟨rfl, rfl, rfl, trivial⟩, hV5324, hM⟩
    ·refine wp_seq ?_
     refine wp_region_list <| st1 hS (mv rfl) rfl fun a w hS => st1 hS (mv rfl) rfl fun a w hS => st1 hS (ixV rfl rfl Tryd.runUnderlying45 Tryd.sizeOf3 hr5208.wk (fun _ => rfl) rfl hk5312) rfl fun a w hS => st1 hS (ldV0 rfl hr5208.wk (fun _ => rfl) hk5312 rfl Tryd.isAgg3) rfl fun a w hS => st1 hS (bin rfl rfl rfl) rfl fun a w hS => st1 hS (mv rfl) rfl fun a w hS => g_op 2 true 63 (b := ((rd row5205 i5295) == (0 : Int))) (r := (decide (n_5310 ≥ (3 : Int)))) hS rfl rfl rfl rfl rfl rfl rfl (fun hb a w hS K hK => ?_) rfl fun a w hS => ?_
     ·refine st1g hS rfl rfl rfl hb (mv rfl) rfl fun a w hS => ?_
      refine st1g hS rfl rfl rfl hb (bin rfl rfl rfl) rfl fun a w hS => ?_
      exact wpList_nil (hK _ _ (hS.up 2 rfl rfl))
     refine st1x (v := Value.bool) (x0 := (((rd row5205 i5295) == (0 : Int)) && (decide (n_5310 ≥ (3 : Int))))) hS (asg rfl) rfl fun v5327 a w hz hS => ?_
     have hM := lt_to hz hM; clear hz
     refine wpList_nil <| then_n <| s_cond hS rfl hM (fun hb5328 hM => ?_) (fun hb5328 hM => ?_)
     ·refine wp_region_list ?_
      refine st1 hS (mv rfl) rfl fun a w hS => st1 hS (mv rfl) rfl fun a w hS => st1 hS (bin rfl rfl rfl) rfl fun a w hS => st1 hS (bld ([.int .i64 (17 : Int), .int .i64 (w64 (n_5310 - (3 : Int))), .int .i64 (3 : Int)]) [(0, 1), (1, 1), (2, 1)] Tryd.zeroValue75 Tryd.runUnderlying75 (by intro w; simp [Tryd.sizeOf3]) rfl rfl) rfl fun a w hS => bsl (g := T_deflate_item.cells) ([(T_deflate_item.mk (17 : Int) (w64 (n_5310 - (3 : Int))) (3 : Int))] : List T_deflate_item) [.agg ⟨[.int .i64 (17 : Int), .int .i64 (w64 (n_5310 - (3 : Int))), .int .i64 (3 : Int)]⟩] hS Tryd.runUnderlying72 Tryd.sizeOf75 X.el75 rfl rfl rfl (by simp [Value.cells]) rfl rfl rfl rfl rfl fun w A5329 c5330 f5331 hV5332 hS => ?_
      obtain ⟨hk5333, hM⟩ := wp_chk hM
      refine apV (ys := ([(T_deflate_item.mk (17 : Int) (w64 (n_5310 - (3 : Int))) (3 : Int))] : List T_deflate_item)) 1 hS rfl rfl hV5294 rfl (hV5332.rd (i := 0) rfl) Tryd.runUnderlying72 Tryd.runUnderlying72 X.el75 (fun _ => rfl) rfl one_t75 hk5333 rfl fun zs5338 w A5334 c5335 f5336 hz hV5337 hS => ?_
      have hM := lt_to hz hM; clear hz
      refine st1 hS (asg rfl) rfl fun a w hS => wpList_nil <| blk_n (then_n ?_)
      refine wp_region_list <| st1 hS (mv rfl) rfl fun a w hS => st1 hS (mv rfl) rfl fun a w hS => st1 hS (bin rfl rfl rfl) rfl fun a w hS => st1x (v := Value.int .i64) (x0 := (w64 (i5295 + n_5310))) hS (asg rfl) rfl fun i5339 a w hz hS => ?_
      have hM := lt_to hz hM; clear hz
      refine wpList_nil <| blk_n (then_n ?_)
      exact hJ5365 _ _ ⟨A5334, c5335, zs5338, f5336, i5339, hS.to [1] (by kernel_rfl) ⟨rfl, rfl, rfl, trivial⟩, hV5337, hM⟩
     ·refine wp_seq ?_
      refine wp_region_list <| st1 hS (mv rfl) rfl fun a w hS => st1 hS (bin rfl rfl rfl) rfl fun a w hS => st1x (v := Value.bool) (x0 := (decide (n_5310 ≥ (4 : Int)))) hS (asg rfl) rfl fun v5340 a w hz hS => ?_
      have hM := lt_to hz hM; clear hz
      refine wpList_nil <| then_n <| s_cond hS rfl hM (fun hb5341 hM => ?_) (fun hb5341 hM => ?_)
      ·refine wp_seq ?_
       refine wp_region_list <| st1 hS (mv rfl) rfl fun a w hS => st1 hS (minI rfl rfl) rfl fun a w hS => st1x (v := Value.int .i64) (x0 := (if (7 : Int) < n_5310 then (7 : Int) else n_5310)) hS (asg rfl) rfl fun n_5342 a w hz hS => ?_
       have hM := lt_to hz hM; clear hz
       refine wpList_nil <| then_n <| wp_region_list <| st1 hS (mv rfl) rfl fun a w hS => st1 hS (mv rfl) rfl fun a w hS => st1 hS (mv rfl) rfl fun a w hS => st1 hS (ixV rfl rfl Tryd.runUnderlying45 Tryd.sizeOf3 hr5208.wk (fun _ => rfl) rfl hk5312) rfl fun a w hS => st1 hS (ldV0 rfl hr5208.wk (fun _ => rfl) hk5312 rfl Tryd.isAgg3) rfl fun a w hS => st1 hS (bld ([.int .i64 (rd row5205 i5295), .int .i64 (0 : Int), .int .i64 (0 : Int)]) [(0, 1), (1, 1), (2, 1)] Tryd.zeroValue75 Tryd.runUnderlying75 (by intro w; simp [Tryd.sizeOf3]) rfl rfl) rfl fun a w hS => st1 hS (mv rfl) rfl fun a w hS => st1 hS (bin rfl rfl rfl) rfl fun a w hS => st1 hS (bld ([.int .i64 (16 : Int), .int .i64 (w64 (n_5342 - (4 : Int))), .int .i64 (2 : Int)]) [(0, 1), (1, 1), (2, 1)] Tryd.zeroValue75 Tryd.runUnderlying75 (by intro w; simp [Tryd.sizeOf3]) rfl rfl) rfl fun a w hS => bsl (g := T_deflate_item.cells) ([(T_deflate_item.mk (rd row5205 i5295) (0 : Int) (0 : Int)), (T_deflate_item.mk (16 : Int) (w64 (n_5342 - (4 : Int))) (2 : Int))] : List T_deflate_item) [.agg ⟨[.int .i64 (rd row5205 i5295), .int .i64 (0 : Int), .int .i64 (0 : Int)]⟩, .agg ⟨[.int .i64 (16 : Int), .int .i64 (w64 (n_5342 - (4 : Int))), .int .i64 (2 : Int)]⟩] hS Tryd.runUnderlying72 Tryd.sizeOf75 X.el75 rfl rfl rfl (by simp [Value.cells]) rfl rfl rfl rfl rfl fun w A5343 c5344 f5345 hV5346 hS => ?_
       obtain ⟨hk5347, hM⟩ := wp_chk hM
       refine apV (ys := ([(T_deflate_item.mk (rd row5205 i5295) (0 : Int) (0 : Int)), (T_deflate_item.mk (16 : Int) (w64 (n_5342 - (4 : Int))) (2 : Int))] : List T_deflate_item)) 1 hS rfl rfl hV5294 rfl (hV5346.rd (i := 0) rfl) Tryd.runUnderlying72 Tryd.runUnderlying72 X.el75 (fun _ => rfl) rfl one_t75 hk5347 rfl fun zs5352 w A5348 c5349 f5350 hz hV5351 hS => ?_
       have hM := lt_to hz hM; clear hz
       refine st1 hS (asg rfl) rfl fun a w hS => wpList_nil <| blk_n (then_n ?_)
       refine wp_region_list <| st1 hS (mv rfl) rfl fun a w hS => st1 hS (mv rfl) rfl fun a w hS => st1 hS (bin rfl rfl rfl) rfl fun a w hS => st1x (v := Value.int .i64) (x0 := (w64 (i5295 + n_5342))) hS (asg rfl) rfl fun i5353 a w hz hS => ?_
       have hM := lt_to hz hM; clear hz
       refine wpList_nil <| blk_n (then_n ?_)
       exact hJ5365 _ _ ⟨A5348, c5349, zs5352, f5350, i5353, hS.to [1] (by kernel_rfl) ⟨rfl, rfl, rfl, trivial⟩, hV5351, hM⟩
      ·refine wp_seq ?_
       refine wp_region_list <| st1 hS (asg rfl) rfl fun a w hS => wpList_nil <| then_n <| wp_region_list <| st1 hS (mv rfl) rfl fun a w hS => st1 hS (mv rfl) rfl fun a w hS => st1 hS (mv rfl) rfl fun a w hS => st1 hS (ixV rfl rfl Tryd.runUnderlying45 Tryd.sizeOf3 hr5208.wk (fun _ => rfl) rfl hk5312) rfl fun a w hS => st1 hS (ldV0 rfl hr5208.wk (fun _ => rfl) hk5312 rfl Tryd.isAgg3) rfl fun a w hS => st1 hS (bld ([.int .i64 (rd row5205 i5295), .int .i64 (0 : Int), .int .i64 (0 : Int)]) [(0, 1), (1, 1), (2, 1)] Tryd.zeroValue75 Tryd.runUnderlying75 (by intro w; simp [Tryd.sizeOf3]) rfl rfl) rfl fun a w hS => bsl (g := T_deflate_item.cells) ([(T_deflate_item.mk (rd row5205 i5295) (0 : Int) (0 : Int))] : List T_deflate_item) [.agg ⟨[.int .i64 (rd row5205 i5295), .int .i64 (0 : Int), .int .i64 (0 : Int)]⟩] hS Tryd.runUnderlying72 Tryd.sizeOf75 X.el75 rfl rfl rfl (by simp [Value.cells]) rfl rfl rfl rfl rfl fun w A5354 c5355 f5356 hV5357 hS => ?_
       obtain ⟨hk5358, hM⟩ := wp_chk hM
       refine apV (ys := ([(T_deflate_item.mk (rd row5205 i5295) (0 : Int) (0 : Int))] : List T_deflate_item)) 1 hS rfl rfl hV5294 rfl (hV5357.rd (i := 0) rfl) Tryd.runUnderlying72 Tryd.runUnderlying72 X.el75 (fun _ => rfl) rfl one_t75 hk5358 rfl fun zs5363 w A5359 c5360 f5361 hz hV5362 hS => ?_
       have hM := lt_to hz hM; clear hz
       refine st1 hS (asg rfl) rfl fun a w hS => wpList_nil <| blk_n (then_n ?_)
       refine wp_region_list <| st1 hS (mv rfl) rfl fun a w hS => st1 hS (mv rfl) rfl fun a w hS => st1 hS (bin rfl rfl rfl) rfl fun a w hS => st1x (v := Value.int .i64) (x0 := (w64 (i5295 + (1 : Int)))) hS (asg rfl) rfl fun i5364 a w hz hS => ?_
       have hM := lt_to hz hM; clear hz
       refine wpList_nil <| blk_n (then_n ?_)
       exact hJ5365 _ _ ⟨A5359, c5360, zs5363, f5361, i5364, hS.to [1] (by kernel_rfl) ⟨rfl, rfl, rfl, trivial⟩, hV5362, hM⟩
  ·refine wp_exit ?_
   refine then_ex (then_ex (blk_same (then_n ?_)))
   refine wp_seq <| wp_region_list <| st1 hS (mv rfl) rfl fun a w hS => st1 hS (asg rfl) rfl fun a w hS => wpList_nil <| then_n <| wp_ret ?_
   exact s_ret (rs := [2]) hS rfl rfl (hret A5290 c5291 out5292 f5293 w (wp_ok hM) hV5294 (hS.st.pick [0] (by kernel_rfl)))

theorem deflate_writer_symbol_c {H : Imm} {F : List Frag} {w : World} {R : Ending → World → Prop} {kr : (Int × (List Int)) → Prop} {kp : Value → Prop} (hG : Gl H) (K : Nat) (w_5575 : T_deflate_writer) (c_5599 : T_deflate_code) (s5608 : Int) (b5576 : Nat) (f5577 : Frag) (A5579 : Option Addr) (c5580 : Nat) (f5581 : Frag) (A5583 : Option Addr) (c5584 : Nat) (f5585 : Frag) (A5587 : Option Addr) (c5588 : Nat) (f5589 : Frag) (A5591 : Option Addr) (c5592 : Nat) (f5593 : Frag) (A5595 : Option Addr) (c5596 : Nat) (f5597 : Frag) (A5600 : Option Addr) (c5601 : Nat) (A5604 : Option Addr) (c5605 : Nat) (hB5578 : Blk f5577 b5576 ([.int .i64 w_5575.Writer_.place_.at_, .slice A5579 w_5575.Writer_.bytes_.length c5580, .slice A5583 w_5575.literals_.lengths_.length c5584, .slice A5587 w_5575.literals_.codes_.length c5588, .slice A5591 w_5575.distances_.lengths_.length c5592, .slice A5595 w_5575.distances_.codes_.length c5596]) 49) (hV5582 : Vec 5 (ci .u8) 1 A5579 w_5575.Writer_.bytes_ c5580 f5581) (hV5586 : Vec 3 (ci .i64) 1 A5583 w_5575.literals_.lengths_ c5584 f5585) (hV5590 : Vec 3 (ci .i64) 1 A5587 w_5575.literals_.codes_ c5588 f5589) (hV5594 : Vec 3 (ci .i64) 1 A5591 w_5575.distances_.lengths_ c5592 f5593) (hV5598 : Vec 3 (ci .i64) 1 A5595 w_5575.distances_.codes_ c5596 f5597) (hr5602 : Rdl H [] F (ci .i64) A5600 c_5599.lengths_) (hc5603 : c_5599.lengths_.length ≤ c5601) (hr5606 : Rdl H [] F (ci .i64) A5604 c_5599.codes_) (hc5607 : c_5599.codes_.length ≤ c5605)
    (hS : St w H [f5577, f5581, f5585, f5589, f5593, f5597] F) (hm : (deflate_writer_symbol.m K w_5575 c_5599 s5608).wp kr kp)
    (hret : ∀ (at_5666 : Int) (A5667 : Option Addr) (c5668 : Nat) (bytes5669 : (List Int)) (f5670 : Frag) (f5672 : Frag) (w : World), kr (at_5666, bytes5669) → (Vec 5 (ci .u8) 1 A5667 bytes5669 c5668 f5670) → (Blk f5672 b5576 ([.int .i64 at_5666, .slice A5667 bytes5669.length c5668, .slice A5583 w_5575.literals_.lengths_.length c5584, .slice A5587 w_5575.literals_.codes_.length c5588, .slice A5591 w_5575.distances_.lengths_.length c5592, .slice A5595 w_5575.distances_.codes_.length c5596]) 49) → St w H [f5672, f5670, f5585, f5589, f5593, f5597] F → R (.returned (.tuple ⟨[]⟩)) w) :
    Calls Tryd.prog 41 ⟨[ptr b5576 0, .agg ⟨[.slice A5600 c_5599.lengths_.length c5601, .slice A5604 c_5599.codes_.length c5605]⟩, .int .i64 s5608]⟩ w R := by
 refine enter Tryd.func41 rfl Tryd.ntmps41 rfl hS fun a w hS => ?_
 have hM := hm; clear hm
 rw [deflate_writer_symbol.m] at hM
 refine wp_seq <| wp_region_list <| bx ([.slice A5600 c_5599.lengths_.length c5601, .slice A5604 c_5599.codes_.length c5605]) hS rfl rfl rfl fun w b5609 f5610 hB5611 hS => wpList_nil <| then_n <| wp_seq <| wp_region_list <| st1 hS (fad rfl Tryd.runUnderlying47 rfl Tryd.sizeOf45 rfl) rfl fun a w hS => st1 hS (ldb 0 rfl hB5611 rfl rfl Tryd.isAgg45) rfl fun a w hS => st1 hS (mv rfl) rfl fun a w hS => ?_
 obtain ⟨hk5612, hM⟩ := wp_chk hM
 refine st1 hS (ixV rfl rfl Tryd.runUnderlying45 Tryd.sizeOf3 hr5602.wk (fun _ => rfl) rfl hk5612) rfl fun a w hS => st1 hS (ldV0 rfl hr5602.wk (fun _ => rfl) hk5612 rfl Tryd.isAgg3) rfl fun a w hS => st1 hS (bin rfl rfl rfl) rfl fun a w hS => st1x (v := Value.int .i64) (x0 := (w64 ((rd c_5599.lengths_ s5608) - (1 : Int)))) hS (asg rfl) rfl fun i5613 a w hz hS => ?_
 have hM := lt_to hz hM; clear hz
 refine wpList_nil <| then_n <| wp_block <| s_loopJ (fun k5649 a w => ∃ (at_5640 : Int) (A5641 : Option Addr) (c5642 : Nat) (bytes5643 : (List Int)) (f5644 : Frag) (f5646 : Frag) (i5648 : Int), Ss 30 [] [(0, ptr b5576 0), (2, .int .i64 s5608), (4, ptr b5609 0), (6, .int .i64 i5648)] H [f5646, f5644, f5585, f5589, f5593, f5597, f5610] F a w ∧ (Vec 5 (ci .u8) 1 A5641 bytes5643 c5642 f5644) ∧ (Blk f5646 b5576 ([.int .i64 at_5640, .slice A5641 bytes5643.length c5642, .slice A5583 w_5575.literals_.lengths_.length c5584, .slice A5587 w_5575.literals_.codes_.length c5588, .slice A5591 w_5575.distances_.lengths_.length c5592, .slice A5595 w_5575.distances_.codes_.length c5596]) 49) ∧ (deflate_writer_symbol.l1 K w_5575 c_5599 s5608 k5649 at_5640 bytes5643 i5648).wp kr kp) K ?_ ?_ ?_
 ·exact ⟨w_5575.Writer_.place_.at_, A5579, c5580, w_5575.Writer_.bytes_, f5581, f5577, i5613, hS.to [1, 2, 3, 4, 5, 6, 0] (by kernel_rfl) ⟨rfl, rfl, rfl, rfl, trivial⟩, hV5582, hB5578, hM⟩
 ·intro a w hI; obtain ⟨_, _, _, _, _, _, _, _, _, _, hM⟩ := hI; exact wp_fail hM
 ·intro k5649 a w hI J5665 hJ5665
  obtain ⟨at_5640, A5641, c5642, bytes5643, f5644, f5646, i5648, hS, hV5645, hB5647, hM⟩ := hI
  rw [deflate_writer_symbol.l1] at hM
  refine wp_seq <| wp_seq <| wp_region_list <| st1 hS (mv rfl) rfl fun a w hS => st1 hS (bin rfl rfl rfl) rfl fun a w hS => wpList_nil <| then_n <| s_cond hS rfl hM (fun hb5650 hM => ?_) (fun hb5650 hM => ?_)
  ·refine wp_skip ?_
   refine then_n <| wp_seq <| wp_block ?_
   obtain ⟨hk5652, hM⟩ := wp_chk hM
   obtain ⟨hk5654, hM⟩ := wp_chk hM
   refine draw_begin (vals := [some (ptr b5576 0), some (ptr b5576 0), some (ptr b5576 0), some (ptr b5609 1), some (.slice A5604 c_5599.codes_.length c5605), some (.int .i64 s5608), some (slp A5604 (Int.toNat s5608 * 1)), some (.int .i64 (rd c_5599.codes_ s5608)), some (.int .i64 i5648), some (.int .i64 (ishr .i64 (rd c_5599.codes_ s5608) i5648)), some (.int .i64 (iand .i64 (ishr .i64 (rd c_5599.codes_ s5608) i5648) (1 : Int))), some (.int .u32 (wr .u32 (iand .i64 (ishr .i64 (rd c_5599.codes_ s5608) i5648) (1 : Int)))), none]) hS mixed rfl ?_
   intro l w ho hcl hA hst
   refine phq hA hst ho hcl navail nmust 12 [0, 1, 2, 3, 4, 5, 6, 7, 8, 9, 10, 11] rfl rfl rfl rfl rfl (by exact ⟨nR rfl rfl rfl rfl rfl (by exact ovE (mv rfl) rfl), nR rfl rfl rfl rfl rfl (by exact ovE (nck rfl) rfl), nR rfl rfl rfl rfl rfl (by exact ovE (fad rfl Tryd.runUnderlying49 rfl Tryd.sizeOf44 rfl) rfl), nR rfl rfl rfl rfl rfl (by exact ovE (fad rfl Tryd.runUnderlying47 rfl Tryd.sizeOf45 rfl) rfl), nR rfl rfl rfl rfl rfl (by exact ovE (ldb 6 rfl hB5611 rfl rfl Tryd.isAgg45) rfl), nR rfl rfl rfl rfl rfl (by exact ovE (mv rfl) rfl), nR rfl rfl rfl rfl rfl (by exact ovE (ixV rfl rfl Tryd.runUnderlying45 Tryd.sizeOf3 hr5606.wk (fun _ => rfl) rfl hk5652) rfl), nR rfl rfl rfl rfl rfl (by exact ovE (ldV0 rfl hr5606.wk (fun _ => rfl) hk5652 rfl Tryd.isAgg3) rfl), nR rfl rfl rfl rfl rfl (by exact ovE (mv rfl) rfl), nR rfl rfl rfl rfl rfl (by exact ovE (shr rfl rfl hk5654) rfl), nR rfl rfl rfl rfl rfl (by exact ovE (bin rfl rfl rfl) rfl), nR rfl rfl rfl rfl rfl (by exact ovE (cvi rfl Tryd.runUnderlying3 Tryd.runUnderlying53) rfl), trivial⟩) fun D l a w ho hcl hav hpre hm hE hk hA hst => ?_
   have hS := (Ss.mk hE hst).env2 (e' := [(19, ptr b5576 0), (28, .int .u32 (wr .u32 (iand .i64 (ishr .i64 (rd c_5599.codes_ s5608) i5648) (1 : Int))))]) ⟨rfl, rfl, trivial⟩
   refine op_of_nth rfl <| s_call hS rfl Tryd.call23 (bits_Writer_Put_deflate_writer_c hG K (T_deflate_writer.mk (T_bits_Writer.mk (T_bits_place.mk at_5640) bytes5643) w_5575.literals_ w_5575.distances_) (wr .u32 (iand .i64 (ishr .i64 (rd c_5599.codes_ s5608) i5648) (1 : Int))) (1 : Int) b5576 f5646 A5641 c5642 f5644 A5583 c5584 f5585 A5587 c5588 f5589 A5591 c5592 f5593 A5595 c5596 f5597 hB5647 hV5645 hV5586 hV5590 hV5594 hV5598 (hS.st.part 6 [0, 1, 2, 3, 4, 5, 6] (by kernel_rfl)) (wp_bind hM) (fun x5655 at_5656 A5657 c5658 bytes5659 f5660 f5661 w hM h5662 h5663 hst => s_back hS.ev hst.appF rfl fun hS => ?_))
   replace hS : Ss _ _ _ H [f5661, f5660, f5585, f5589, f5593, f5597, f5610] F _ _ := hS
   refine wpList_nil (then_n ?_)
   replace hst := hS.st
   obtain ⟨hcl, hmust, hav2, hA⟩ := dn (vals' := [some (ptr b5576 0), some (ptr b5576 0), some (ptr b5576 0), some (ptr b5609 1), some (.slice A5604 c_5599.codes_.length c5605), some (.int .i64 s5608), some (slp A5604 (Int.toNat s5608 * 1)), some (.int .i64 (rd c_5599.codes_ s5608)), some (.int .i64 i5648), some (.int .i64 (ishr .i64 (rd c_5599.codes_ s5608) i5648)), some (.int .i64 (iand .i64 (ishr .i64 (rd c_5599.codes_ s5608) i5648) (1 : Int))), some (.int .u32 (wr .u32 (iand .i64 (ishr .i64 (rd c_5599.codes_ s5608) i5648) (1 : Int)))), some (.int .i64 x5655)]) 12 [(2, 12), (11, 12), (1, 2), (10, 11), (0, 1), (9, 10), (7, 9), (8, 9), (6, 7), (4, 6), (5, 6), (3, 4)] hA hcl hav hm hpre hk rfl rfl rfl rfl rfl rfl rfl
   clear hm hav
   refine phqE hA hst ho hcl hmust [] rfl rfl rfl trivial fun a w hS => ?_
   replace hS := hS.env2 (e' := [(0, ptr b5576 0), (2, .int .i64 s5608), (4, ptr b5609 0), (6, .int .i64 i5648)]) ⟨rfl, rfl, rfl, rfl, trivial⟩
   refine blk_n (then_n ?_)
   refine wp_region_list <| st1 hS (mv rfl) rfl fun a w hS => st1 hS (bin rfl rfl rfl) rfl fun a w hS => st1x (v := Value.int .i64) (x0 := (w64 (i5648 - (1 : Int)))) hS (asg rfl) rfl fun i5664 a w hz hS => ?_
   have hM := lt_to hz hM; clear hz
   refine wpList_nil <| then_n ?_
   exact hJ5665 _ _ ⟨at_5656, A5657, c5658, bytes5659, f5660, f5661, i5664, hS.to [0, 1, 2, 3, 4, 5, 6] (by kernel_rfl) ⟨rfl, rfl, rfl, rfl, trivial⟩, h5662, h5663, hM⟩
  ·refine wp_exit ?_
   refine then_ex (then_ex (blk_same ?_))
   exact s_end (rs := []) hS rfl rfl (hret at_5640 A5641 c5642 bytes5643 f5644 f5646 w (wp_ok hM) hV5645 hB5647 (hS.st.pick [0, 1, 2, 3, 4, 5] (by kernel_rfl)))

theorem deflate_Dynamic_c {H : Imm} {F : List Frag} {w : World} {R : Ending → World → Prop} {kr : ((List UInt8) × Int) → Prop} {kp : Value → Prop} (hG : Gl H) (K : Nat) (l_1214 : List T_api_Token) (A1215 : Option Addr) (c1216 : Nat) (hr1217 : Rdl H [] F T_api_Token.cells A1215 l_1214) (hc1218 : l_1214.length ≤ c1216)
    (hS : St w H [] F) (hm : (deflate_Dynamic.m K l_1214).wp kr kp)
    (hret : ∀ (x5753 : List UInt8) (x5754 : Int) (w : World), kr (x5753, x5754) → St w H [] F → R (.returned (.tuple ⟨[str x5753, .int .i64 x5754]⟩)) w)
    (hpan : ∀ v w, kp v → St w H [] F → R (.panicked [⟨v, false, false⟩]) w) :
    Calls Tryd.prog 14 ⟨[.slice A1215 l_1214.length c1216]⟩ w R := by
 refine enter Tryd.func14 rfl Tryd.ntmps14 rfl hS fun a w hS => ?_
 have hM := hm; clear hm
 rw [deflate_Dynamic.m] at hM
 refine wp_seq <| wp_region_list <| st1 hS (asg rfl) rfl fun a w hS => st1 hS (asg rfl) rfl fun a w hS => wpList_nil <| then_n <| wp_seq <| wp_seq <| wp_region_list <| st1 hS (mv rfl) rfl fun a w hS => s_call hS rfl Tryd.call21 (deflate_fine_c hG K l_1214 A1215 c1216 (hr1217.app _) hc1218 (hS.st.part 0 [] (by kernel_rfl)) (wp_bind hM) (fun x1219 w hM  hst => s_back hS.ev hst.appF rfl fun hS => ?_))
 replace hS : Ss _ _ _ H [] F _ _ := hS
 refine st1 hS (un rfl rfl) rfl fun a w hS => wpList_nil <| then_n <| s_cond hS rfl hM (fun hb1220 hM => ?_) (fun hb1220 hM => ?_)
 ·refine wp_seq ?_
  refine wp_region_list <| st1 hS (asg rfl) rfl fun a w hS => st1 hS (asg rfl) rfl fun a w hS => wpList_nil <| then_n <| wp_ret <| then_ret ?_
  exact s_ret (rs := [2, 3]) hS rfl rfl (hret ([] : List UInt8) (1 : Int) w (wp_ok hM) (hS.st.pick [] (by kernel_rfl)))
 ·refine wp_skip ?_
  refine then_n <| seq_joinJ (fun a w => ∃ (A1247 : Option Addr) (c1248 : Nat) (literals1249 : (List Int)) (f1250 : Frag) (A1252 : Option Addr) (c1253 : Nat) (distances1254 : (List Int)) (f1255 : Frag), Ss 196 [] [(0, .slice A1215 l_1214.length c1216), (4, .slice A1247 literals1249.length c1248), (5, .slice A1252 distances1254.length c1253)] H [f1250, f1255] F a w ∧ (Vec 3 (ci .i64) 1 A1247 literals1249 c1248 f1250) ∧ (Vec 3 (ci .i64) 1 A1252 distances1254 c1253 f1255) ∧ (deflate_Dynamic.j1 K l_1214 literals1249 distances1254).wp kr kp) (fun J1257 hJ1257 => ?_) ?_
  ·refine draw_begin (vals := [none, none, none, none]) hS mixed rfl ?_
   intro l w ho hcl hA hst
   obtain ⟨hk1221, hM⟩ := wp_chk hM
   obtain ⟨zs1222, hz1223⟩ := nameE (List.replicate (Int.toNat (286 : Int)) (0 : Int))
   replace hM := lt_to hz1223 hM
   obtain ⟨hk1224, hM⟩ := wp_chk hM
   obtain ⟨zs1225, hz1226⟩ := nameE (List.replicate (Int.toNat (30 : Int)) (0 : Int))
   replace hM := lt_to hz1226 hM
   refine phase2 (vals := [none, none, none, none]) 0 1 [] [] rfl rfl rfl rfl rfl trivial (fun D l a w ho hcl hav hpre hm hE hk hA hst => ?_) (fun D l a w ho hcl hav hpre hm hE hk hA hst => ?_) ho hcl navail nmust List.not_mem_nil List.not_mem_nil hA hst
   ·have hS := (Ss.mk hE hst).env2 (e' := []) trivial
    refine op_of_nth rfl <| mkS (g := (ci .i64)) (m := (286 : Int)) (0 : Int) hS rfl rfl (by simp) Tryd.runUnderlying45 X.el3 (fun w => ⟨_, Tryd.zeroValue3 w, rfl⟩) (fun _ => rfl) rfl rfl hk1221 rfl fun zs1231 w A1227 c1228 f1229 hz hV1230 hS => ?_
    rw [← hz1223] at hz; replace hz := hz.symm; subst hz
    refine wpList_nil (then_n ?_)
    replace hst := hS.st
    obtain ⟨hcl, hmust, hav2, hA⟩ := dn (vals' := [some (.slice A1227 zs1222.length c1228), none, some (.slice A1227 zs1222.length c1228), none]) 0 [] hA hcl hav hm hpre hk rfl rfl rfl rfl rfl rfl rfl
    clear hm hav
    refine phq hA hst ho hcl hav2 hmust 1 [2] rfl rfl rfl rfl rfl (by exact ⟨nR rfl rfl rfl rfl rfl (by exact ovE (asg rfl) rfl), trivial⟩) fun D l a w ho hcl hav hpre hm hE hk hA hst => ?_
    have hS := (Ss.mk hE hst).env2 (e' := []) trivial
    refine op_of_nth rfl <| mkS (g := (ci .i64)) (m := (30 : Int)) (0 : Int) hS rfl rfl (by simp) Tryd.runUnderlying45 X.el3 (fun w => ⟨_, Tryd.zeroValue3 w, rfl⟩) (fun _ => rfl) rfl rfl hk1224 rfl fun zs1236 w A1232 c1233 f1234 hz hV1235 hS => ?_
    rw [← hz1226] at hz; replace hz := hz.symm; subst hz
    refine wpList_nil (then_n ?_)
    replace hst := hS.st
    obtain ⟨hcl, hmust, hav2, hA⟩ := dn (vals' := [some (.slice A1227 zs1222.length c1228), some (.slice A1232 zs1225.length c1233), some (.slice A1227 zs1222.length c1228), some (.slice A1232 zs1225.length c1233)]) 1 [] hA hcl hav hm hpre hk rfl rfl rfl rfl rfl rfl rfl
    clear hm hav
    refine phqE hA hst ho hcl hmust [2, 3] rfl rfl rfl (by exact ⟨nR rfl rfl rfl rfl rfl (by exact ovE (asg rfl) rfl), nR rfl rfl rfl rfl rfl (by exact ovE (asg rfl) rfl), trivial⟩) fun a w hS => ?_
    replace hS := hS.env2 (e' := [(0, .slice A1215 l_1214.length c1216), (4, .slice A1227 zs1222.length c1228), (5, .slice A1232 zs1225.length c1233)]) ⟨rfl, rfl, rfl, trivial⟩
    refine then_n ?_
    exact hJ1257 _ _ ⟨A1227, c1228, zs1222, f1229, A1232, c1233, zs1225, f1234, hS.to [1, 0] (by kernel_rfl) ⟨rfl, rfl, rfl, trivial⟩, hV1230, hV1235, hM⟩
   ·have hS := (Ss.mk hE hst).env2 (e' := []) trivial
    refine op_of_nth rfl <| mkS (g := (ci .i64)) (m := (30 : Int)) (0 : Int) hS rfl rfl (by simp) Tryd.runUnderlying45 X.el3 (fun w => ⟨_, Tryd.zeroValue3 w, rfl⟩) (fun _ => rfl) rfl rfl hk1224 rfl fun zs1241 w A1237 c1238 f1239 hz hV1240 hS => ?_
    rw [← hz1226] at hz; replace hz := hz.symm; subst hz
    refine wpList_nil (then_n ?_)
    replace hst := hS.st
    obtain ⟨hcl, hmust, hav2, hA⟩ := dn (vals' := [none, some (.slice A1237 zs1225.length c1238), none, none]) 1 [] hA hcl hav hm hpre hk rfl rfl rfl rfl rfl rfl rfl
    clear hm hav
    refine phq hA hst ho hcl hav2 hmust 0 [] rfl rfl rfl rfl rfl trivial fun D l a w ho hcl hav hpre hm hE hk hA hst => ?_
    have hS := (Ss.mk hE hst).env2 (e' := []) trivial
    refine op_of_nth rfl <| mkS (g := (ci .i64)) (m := (286 : Int)) (0 : Int) hS rfl rfl (by simp) Tryd.runUnderlying45 X.el3 (fun w => ⟨_, Tryd.zeroValue3 w, rfl⟩) (fun _ => rfl) rfl rfl hk1221 rfl fun zs1246 w A1242 c1243 f1244 hz hV1245 hS => ?_
    rw [← hz1223] at hz; replace hz := hz.symm; subst hz
    refine wpList_nil (then_n ?_)
    replace hst := hS.st
    obtain ⟨hcl, hmust, hav2, hA⟩ := dn (vals' := [some (.slice A1242 zs1222.length c1243), some (.slice A1237 zs1225.length c1238), some (.slice A1242 zs1222.length c1243), some (.slice A1237 zs1225.length c1238)]) 0 [] hA hcl hav hm hpre hk rfl rfl rfl rfl rfl rfl rfl
    clear hm hav
    refine phqE hA hst ho hcl hmust [2, 3] rfl rfl rfl (by exact ⟨nR rfl rfl rfl rfl rfl (by exact ovE (asg rfl) rfl), nR rfl rfl rfl rfl rfl (by exact ovE (asg rfl) rfl), trivial⟩) fun a w hS => ?_
    replace hS := hS.env2 (e' := [(0, .slice A1215 l_1214.length c1216), (4, .slice A1242 zs1222.length c1243), (5, .slice A1237 zs1225.length c1238)]) ⟨rfl, rfl, rfl, trivial⟩
    refine then_n ?_
    exact hJ1257 _ _ ⟨A1242, c1243, zs1222, f1244, A1237, c1238, zs1225, f1239, hS.to [0, 1] (by kernel_rfl) ⟨rfl, rfl, rfl, trivial⟩, hV1245, hV1240, hM⟩
  ·intro a w hI
   obtain ⟨A1247, c1248, literals1249, f1250, A1252, c1253, distances1254, f1255, hS, hV1251, hV1256, hM⟩ := hI
   rw [deflate_Dynamic.j1] at hM
   refine wp_seq <| wp_region_list <| st1 hS (mv rfl) rfl fun a w hS => ?_
   obtain ⟨hk1258, hM⟩ := wp_chk hM
   refine st1 hS (ixV rfl rfl Tryd.runUnderlying45 Tryd.sizeOf3 (hV1251.rd (i := 0) rfl) (fun _ => rfl) rfl hk1258) rfl fun a w hS => st1 hS (ldV0 rfl (hV1251.rd (i := 0) rfl) (fun _ => rfl) hk1258 rfl Tryd.isAgg3) rfl fun a w hS => st1 hS (bin rfl rfl rfl) rfl fun a w hS => st1 hS (ixV rfl rfl Tryd.runUnderlying45 Tryd.sizeOf3 (hV1251.rd (i := 0) rfl) (fun _ => rfl) rfl hk1258) rfl fun a w hS => stV (i := (256 : Int)) (sz := 1) 0 0 ((w64 ((rd literals1249 (256 : Int)) + (1 : Int)))) hS rfl rfl hV1251 rfl Tryd.sizeOf3 (one_t3 (w64 ((rd literals1249 (256 : Int)) + (1 : Int)))) (fun _ => rfl) hk1258 rfl rfl fun zs1261 w f1259 hz hz1262 hV1260 hS => ?_
   have hM := lt_to hz hM; clear hz
   replace hS := hS.re 4 (u := .slice A1247 literals1249.length c1248) (v := .slice A1247 zs1261.length c1248) rfl (by rw [hz1262])
   replace hS := hS.re 28 (u := .slice A1247 literals1249.length c1248) (v := .slice A1247 zs1261.length c1248) rfl (by rw [hz1262])
   refine wpList_nil <| then_n <| seq_joinJ (fun a w => ∃ (literals1339 : (List Int)) (f1340 : Frag) (distances1342 : (List Int)) (f1343 : Frag), Ss 196 [] [(0, .slice A1215 l_1214.length c1216), (4, .slice A1247 literals1339.length c1248), (5, .slice A1252 distances1342.length c1253)] H [f1340, f1343] F a w ∧ (Vec 3 (ci .i64) 1 A1247 literals1339 c1248 f1340) ∧ (Vec 3 (ci .i64) 1 A1252 distances1342 c1253 f1343) ∧ (deflate_Dynamic.j3 K l_1214 literals1339 distances1342).wp kr kp) (fun J1345 hJ1345 => ?_) ?_
   ·refine wp_seq ?_
    refine wp_region_list <| st1 hS (mv rfl) rfl fun a w hS => st1 hS (lenV rfl Tryd.runUnderlying25) rfl fun a w hS => st1 hS (mv rfl) rfl fun a w hS => wpList_nil <| then_n <| wp_block <| s_loopJ (fun k1308 a w => ∃ (literals1301 : (List Int)) (f1302 : Frag) (distances1304 : (List Int)) (f1305 : Frag) (v1307 : Int), Ss 196 [] [(0, .slice A1215 l_1214.length c1216), (4, .slice A1247 literals1301.length c1248), (5, .slice A1252 distances1304.length c1253), (33, .slice A1215 l_1214.length c1216), (34, .int .i64 (l_1214.length : Int)), (35, .int .i64 v1307)] H [f1302, f1305] F a w ∧ (Vec 3 (ci .i64) 1 A1247 literals1301 c1248 f1302) ∧ (Vec 3 (ci .i64) 1 A1252 distances1304 c1253 f1305) ∧ (deflate_Dynamic.l2 K l_1214 k1308 literals1301 distances1304 v1307).wp kr kp) K ?_ ?_ ?_
    ·exact ⟨zs1261, f1259, distances1254, f1255, (0 : Int), hS.to [0, 1] (by kernel_rfl) ⟨rfl, rfl, rfl, rfl, rfl, rfl, trivial⟩, hV1260, hV1256, hM⟩
    ·intro a w hI; obtain ⟨_, _, _, _, _, _, _, _, hM⟩ := hI; exact wp_fail hM
    ·intro k1308 a w hI J1338 hJ1338
     obtain ⟨literals1301, f1302, distances1304, f1305, v1307, hS, hV1303, hV1306, hM⟩ := hI
     rw [deflate_Dynamic.l2] at hM
     refine wp_seq <| wp_region_list <| st1 hS (bin rfl rfl rfl) rfl fun a w hS => wpList_nil <| then_n <| wp_seq <| s_cond hS rfl hM (fun hb1309 hM => ?_) (fun hb1309 hM => ?_)
     ·refine wp_skip ?_
      refine then_n <| wp_seq <| wp_block <| wp_seq <| wp_region_list ?_
      obtain ⟨hk1310, hM⟩ := wp_chk hM
      refine st1 hS (ixV rfl rfl Tryd.runUnderlying25 Tryd.sizeOf32 hr1217.wk (fun _ => rfl) rfl hk1310) rfl fun a w hS => st1 hS (ldVA rfl hr1217.wk (fun _ => rfl) hk1310 Tryd.isAgg32 Tryd.sizeOf32 rfl) rfl fun a w hS => alc ([.int .u8 (0 : Int), .int .i64 (0 : Int), .int .i64 (0 : Int)]) hS Tryd.zeroValue32 rfl rfl fun w b1311 f1312 hB1313 hS => stB 0 ([.int .u8 ((rd l_1214 v1307).Lit_), .int .i64 ((rd l_1214 v1307).Len_), .int .i64 ((rd l_1214 v1307).Dist_)]) ([.int .u8 ((rd l_1214 v1307).Lit_), .int .i64 ((rd l_1214 v1307).Len_), .int .i64 ((rd l_1214 v1307).Dist_)]) hS rfl rfl hB1313 rfl rfl Tryd.sizeOf32 (by simp [Value.oneCell']) (Nat.le_of_ble_eq_true rfl) rfl fun w f1314 hB1315 hS => wpList_nil <| then_n <| wp_seq <| wp_region_list <| st1 hS (fad rfl Tryd.runUnderlying32 rfl Tryd.sizeOf3 rfl) rfl fun a w hS => st1 hS (ldb 0 rfl hB1315 rfl rfl Tryd.isAgg3) rfl fun a w hS => st1 hS (bin rfl rfl rfl) rfl fun a w hS => wpList_nil <| then_n <| s_cond hS rfl hM (fun hb1316 hM => ?_) (fun hb1316 hM => ?_)
      ·refine wp_region_list ?_
       refine st1 hS (mv rfl) rfl fun a w hS => st1 hS (fad rfl Tryd.runUnderlying32 rfl Tryd.sizeOf5 rfl) rfl fun a w hS => st1 hS (ldb 0 rfl hB1315 rfl rfl Tryd.isAgg5) rfl fun a w hS => ?_
       obtain ⟨hk1317, hM⟩ := wp_chk hM
       refine st1 hS (ixV rfl rfl Tryd.runUnderlying45 Tryd.sizeOf3 (hV1303.rd (i := 1) rfl) (fun _ => rfl) rfl hk1317) rfl fun a w hS => st1 hS (ldV0 rfl (hV1303.rd (i := 1) rfl) (fun _ => rfl) hk1317 rfl Tryd.isAgg3) rfl fun a w hS => st1 hS (bin rfl rfl rfl) rfl fun a w hS => st1 hS (ixV rfl rfl Tryd.runUnderlying45 Tryd.sizeOf3 (hV1303.rd (i := 1) rfl) (fun _ => rfl) rfl hk1317) rfl fun a w hS => stV (i := (rd l_1214 v1307).Lit_) (sz := 1) 1 0 ((w64 ((rd literals1301 (rd l_1214 v1307).Lit_) + (1 : Int)))) hS rfl rfl hV1303 rfl Tryd.sizeOf3 (one_t3 (w64 ((rd literals1301 (rd l_1214 v1307).Lit_) + (1 : Int)))) (fun _ => rfl) hk1317 rfl rfl fun zs1320 w f1318 hz hz1321 hV1319 hS => ?_
       have hM := lt_to hz hM; clear hz
       replace hS := hS.re 4 (u := .slice A1247 literals1301.length c1248) (v := .slice A1247 zs1320.length c1248) rfl (by rw [hz1321])
       replace hS := hS.re 42 (u := .slice A1247 literals1301.length c1248) (v := .slice A1247 zs1320.length c1248) rfl (by rw [hz1321])
       refine wpList_nil <| blk_n (then_n ?_)
       refine wp_region_list <| st1 hS (bin rfl rfl rfl) rfl fun a w hS => st1 hS (mv rfl) rfl fun a w hS => wpList_nil <| then_n ?_
       exact hJ1338 _ _ ⟨zs1320, f1318, distances1304, f1305, (w64 (v1307 + (1 : Int))), hS.to [1, 2] (by kernel_rfl) ⟨rfl, rfl, rfl, rfl, rfl, rfl, trivial⟩, hV1319, hV1306, hM⟩
      ·refine wp_seq ?_
       refine wp_region_list <| st1 hS (mv rfl) rfl fun a w hS => st1 hS (fad rfl Tryd.runUnderlying32 rfl Tryd.sizeOf3 rfl) rfl fun a w hS => st1 hS (ldb 0 rfl hB1315 rfl rfl Tryd.isAgg3) rfl fun a w hS => s_call hS rfl Tryd.call35 (deflate_length_c hG K ((rd l_1214 v1307).Len_) (hS.st.part 0 [0, 1, 2] (by kernel_rfl)) (wp_bind hM) (fun symbol1322 bits1323 more1324 w hM  hst => s_back hS.ev hst.appF rfl fun hS => ?_))
       replace hS : Ss _ _ _ H [f1314, f1302, f1305] F _ _ := hS
       refine st1 hS (fld rfl Tryd.runUnderlying68 rfl Tryd.isAgg3 rfl) rfl fun a w hS => ?_
       obtain ⟨hk1325, hM⟩ := wp_chk hM
       refine st1 hS (ixV rfl rfl Tryd.runUnderlying45 Tryd.sizeOf3 (hV1303.rd (i := 1) rfl) (fun _ => rfl) rfl hk1325) rfl fun a w hS => st1 hS (ldV0 rfl (hV1303.rd (i := 1) rfl) (fun _ => rfl) hk1325 rfl Tryd.isAgg3) rfl fun a w hS => st1 hS (bin rfl rfl rfl) rfl fun a w hS => st1 hS (ixV rfl rfl Tryd.runUnderlying45 Tryd.sizeOf3 (hV1303.rd (i := 1) rfl) (fun _ => rfl) rfl hk1325) rfl fun a w hS => stV (i := symbol1322) (sz := 1) 1 0 ((w64 ((rd literals1301 symbol1322) + (1 : Int)))) hS rfl rfl hV1303 rfl Tryd.sizeOf3 (one_t3 (w64 ((rd literals1301 symbol1322) + (1 : Int)))) (fun _ => rfl) hk1325 rfl rfl fun zs1328 w f1326 hz hz1329 hV1327 hS => ?_
       have hM := lt_to hz hM; clear hz
       replace hS := hS.re 4 (u := .slice A1247 literals1301.length c1248) (v := .slice A1247 zs1328.length c1248) rfl (by rw [hz1329])
       replace hS := hS.re 49 (u := .slice A1247 literals1301.length c1248) (v := .slice A1247 zs1328.length c1248) rfl (by rw [hz1329])
       refine wpList_nil <| then_n <| wp_region_list <| st1 hS (mv rfl) rfl fun a w hS => st1 hS (fad rfl Tryd.runUnderlying32 rfl Tryd.sizeOf3 rfl) rfl fun a w hS => st1 hS (ldb 0 rfl hB1315 rfl rfl Tryd.isAgg3) rfl fun a w hS => s_call hS rfl Tryd.call36 (deflate_distance_c hG K ((rd l_1214 v1307).Dist_) (hS.st.part 0 [0, 1, 2] (by kernel_rfl)) (wp_bind hM) (fun symbol1330 bits1331 more1332 w hM  hst => s_back hS.ev hst.appF rfl fun hS => ?_))
       replace hS : Ss _ _ _ H [f1314, f1326, f1305] F _ _ := hS
       refine st1 hS (fld rfl Tryd.runUnderlying68 rfl Tryd.isAgg3 rfl) rfl fun a w hS => ?_
       obtain ⟨hk1333, hM⟩ := wp_chk hM
       refine st1 hS (ixV rfl rfl Tryd.runUnderlying45 Tryd.sizeOf3 (hV1306.rd (i := 2) rfl) (fun _ => rfl) rfl hk1333) rfl fun a w hS => st1 hS (ldV0 rfl (hV1306.rd (i := 2) rfl) (fun _ => rfl) hk1333 rfl Tryd.isAgg3) rfl fun a w hS => st1 hS (bin rfl rfl rfl) rfl fun a w hS => st1 hS (ixV rfl rfl Tryd.runUnderlying45 Tryd.sizeOf3 (hV1306.rd (i := 2) rfl) (fun _ => rfl) rfl hk1333) rfl fun a w hS => stV (i := symbol1330) (sz := 1) 2 0 ((w64 ((rd distances1304 symbol1330) + (1 : Int)))) hS rfl rfl hV1306 rfl Tryd.sizeOf3 (one_t3 (w64 ((rd distances1304 symbol1330) + (1 : Int)))) (fun _ => rfl) hk1333 rfl rfl fun zs1336 w f1334 hz hz1337 hV1335 hS => ?_
       have hM := lt_to hz hM; clear hz
       replace hS := hS.re 5 (u := .slice A1252 distances1304.length c1253) (v := .slice A1252 zs1336.length c1253) rfl (by rw [hz1337])
       replace hS := hS.re 58 (u := .slice A1252 distances1304.length c1253) (v := .slice A1252 zs1336.length c1253) rfl (by rw [hz1337])
       refine wpList_nil <| blk_n (then_n ?_)
       refine wp_region_list <| st1 hS (bin rfl rfl rfl) rfl fun a w hS => st1 hS (mv rfl) rfl fun a w hS => wpList_nil <| then_n ?_
       exact hJ1338 _ _ ⟨zs1328, f1326, zs1336, f1334, (w64 (v1307 + (1 : Int))), hS.to [1, 2] (by kernel_rfl) ⟨rfl, rfl, rfl, rfl, rfl, rfl, trivial⟩, hV1327, hV1335, hM⟩
     ·refine wp_exit ?_
      refine then_ex (then_ex (blk_same (then_n ?_)))
      exact hJ1345 _ _ ⟨literals1301, f1302, distances1304, f1305, hS.to [0, 1] (by kernel_rfl) ⟨rfl, rfl, rfl, trivial⟩, hV1303, hV1306, hM⟩
   ·intro a w hI
    obtain ⟨literals1339, f1340, distances1342, f1343, hS, hV1341, hV1344, hM⟩ := hI
    rw [deflate_Dynamic.j3] at hM
    refine wp_seq <| wp_region_list <| st1 hS (mv rfl) rfl fun a w hS => s_call hS rfl Tryd.call38 (deflate_own_fd7d_c hG K literals1339 A1247 c1248 f1340 hV1341 (hS.st.part 1 [0, 1] (by kernel_rfl)) (wp_bind hM) (fun A5156 c5157 x5158 f5159 often5160 f5161 w hM h5162 h5163 h5164 hst => s_back hS.ev hst.appF rfl fun hS => ?_) (fun v w hk hst => s_pan (then_pan (⟨hS.ev.defs, hpan _ _ hk hst.appF.frame⟩))))
    replace hS : Ss _ _ _ H [f5159, f5161, f1343] F _ _ := hS
    replace hS := hS.re 4 (u := .slice A1247 literals1339.length c1248) (v := .slice A1247 often5160.length c1248) rfl (by rw [h5164])
    replace hS := hS.re 68 (u := .slice A1247 literals1339.length c1248) (v := .slice A1247 often5160.length c1248) rfl (by rw [h5164])
    refine s_call hS rfl Tryd.call37 (deflate_coded_c hG K x5158 A5156 c5157 (h5162.rdF (i := 0) rfl) (h5162.cap (fun _ => rfl) rfl) (hS.st.part 0 [0, 1, 2] (by kernel_rfl)) (wp_bind hM) (fun A5165 c5166 codes5167 f5168 w hM h5169 hst => s_back hS.ev hst.appF rfl fun hS => ?_))
    replace hS : Ss _ _ _ H [f5168, f5159, f5161, f1343] F _ _ := hS
    refine st1 hS (mv rfl) rfl fun a w hS => s_call hS rfl Tryd.call38 (deflate_own_fd7d_c hG K distances1342 A1252 c1253 f1343 hV1344 (hS.st.part 1 [3, 0, 1, 2] (by kernel_rfl)) (wp_bind hM) (fun A5170 c5171 x5172 f5173 often5174 f5175 w hM h5176 h5177 h5178 hst => s_back hS.ev hst.appF rfl fun hS => ?_) (fun v w hk hst => s_pan (then_pan (⟨hS.ev.defs, hpan _ _ hk hst.appF.frame⟩))))
    replace hS : Ss _ _ _ H [f5173, f5175, f5168, f5159, f5161] F _ _ := hS
    replace hS := hS.re 5 (u := .slice A1252 distances1342.length c1253) (v := .slice A1252 often5174.length c1253) rfl (by rw [h5178])
    replace hS := hS.re 71 (u := .slice A1252 distances1342.length c1253) (v := .slice A1252 often5174.length c1253) rfl (by rw [h5178])
    refine s_call hS rfl Tryd.call37 (deflate_coded_c hG K x5172 A5170 c5171 (h5176.rdF (i := 0) rfl) (h5176.cap (fun _ => rfl) rfl) (hS.st.part 0 [0, 1, 2, 3, 4] (by kernel_rfl)) (wp_bind hM) (fun A5179 c5180 codes5181 f5182 w hM h5183 hst => s_back hS.ev hst.appF rfl fun hS => ?_))
    replace hS : Ss _ _ _ H [f5182, f5173, f5175, f5168, f5159, f5161] F _ _ := hS
    refine st1 hS (bld ([.int .i64 (0 : Int), .slice none 0 0, .slice A5156 x5158.length c5157, .slice A5165 codes5167.length c5166, .slice A5170 x5172.length c5171, .slice A5179 codes5181.length c5180]) [(0, 2), (2, 2), (4, 2)] Tryd.zeroValue49 Tryd.runUnderlying49 (by intro w; simp [Tryd.sizeOf44, Tryd.sizeOf47]) rfl rfl) rfl fun a w hS => bx ([.int .i64 (0 : Int), .slice none 0 0, .slice A5156 x5158.length c5157, .slice A5165 codes5167.length c5166, .slice A5170 x5172.length c5171, .slice A5179 codes5181.length c5180]) hS rfl rfl rfl fun w b5184 f5185 hB5186 hS => ?_
    obtain ⟨f5187, hV5188, hS⟩ := hS.nilV 5 (ci .u8) 1
    refine st1 hS (asg rfl) rfl fun a w hS => wpList_nil <| then_n <| wp_seq <| draw_begin (vals := [none, some (ptr b5184 0), some (ptr b5184 0), some (ptr b5184 2), some (ptr b5184 2), some (.slice A5156 x5158.length c5157), none, some (ptr b5184 0), some (ptr b5184 0), some (ptr b5184 4), some (ptr b5184 4), some (.slice A5170 x5172.length c5171), none, none, none]) hS mixed rfl ?_
    intro l w ho hcl hA hst
    refine phq hA hst ho hcl navail nmust 0 [1, 2, 3, 4, 5, 7, 8, 9, 10, 11] rfl rfl rfl rfl rfl (by exact ⟨nR rfl rfl rfl rfl rfl (by exact ovE (mv rfl) rfl), nR rfl rfl rfl rfl rfl (by exact ovE (nck rfl) rfl), nR rfl rfl rfl rfl rfl (by exact ovE (fad rfl Tryd.runUnderlying49 rfl Tryd.sizeOf47 rfl) rfl), nR rfl rfl rfl rfl rfl (by exact ovE (fad rfl Tryd.runUnderlying47 rfl Tryd.sizeOf45 rfl) rfl), nR rfl rfl rfl rfl rfl (by exact ovE (ldb 1 rfl hB5186 rfl rfl Tryd.isAgg45) rfl), nR rfl rfl rfl rfl rfl (by exact ovE (mv rfl) rfl), nR rfl rfl rfl rfl rfl (by exact ovE (nck rfl) rfl), nR rfl rfl rfl rfl rfl (by exact ovE (fad rfl Tryd.runUnderlying49 rfl Tryd.sizeOf47 rfl) rfl), nR rfl rfl rfl rfl rfl (by exact ovE (fad rfl Tryd.runUnderlying47 rfl Tryd.sizeOf45 rfl) rfl), nR rfl rfl rfl rfl rfl (by exact ovE (ldb 1 rfl hB5186 rfl rfl Tryd.isAgg45) rfl), trivial⟩) fun D l a w ho hcl hav hpre hm hE hk hA hst => ?_
    have hS := (Ss.mk hE hst).env2 (e' := []) trivial
    refine op_of_nth rfl <| bsl (g := (ci .i64)) ([] : List Int) [] hS Tryd.runUnderlying45 Tryd.sizeOf3 X.el3 rfl rfl rfl (by simp [Value.cells]) rfl rfl rfl rfl rfl fun w A5189 c5190 f5191 hV5192 hS => wpList_nil (then_n ?_)
    replace hst := hS.st
    obtain ⟨hcl, hmust, hav2, hA⟩ := dn (vals' := [some (.slice A5189 ([] : List Int).length c5190), some (ptr b5184 0), some (ptr b5184 0), some (ptr b5184 2), some (ptr b5184 2), some (.slice A5156 x5158.length c5157), none, some (ptr b5184 0), some (ptr b5184 0), some (ptr b5184 4), some (ptr b5184 4), some (.slice A5170 x5172.length c5171), none, none, none]) 0 [] hA hcl hav hm hpre hk rfl rfl rfl rfl rfl rfl rfl
    clear hm hav
    refine phq hA hst ho hcl hav2 hmust 6 [1, 2, 3, 4, 5, 7, 8, 9, 10, 11] rfl rfl rfl rfl rfl (by exact ⟨nR rfl rfl rfl rfl rfl (by exact ovE (mv rfl) rfl), nR rfl rfl rfl rfl rfl (by exact ovE (nck rfl) rfl), nR rfl rfl rfl rfl rfl (by exact ovE (fad rfl Tryd.runUnderlying49 rfl Tryd.sizeOf47 rfl) rfl), nR rfl rfl rfl rfl rfl (by exact ovE (fad rfl Tryd.runUnderlying47 rfl Tryd.sizeOf45 rfl) rfl), nR rfl rfl rfl rfl rfl (by exact ovE (ldb 2 rfl hB5186 rfl rfl Tryd.isAgg45) rfl), nR rfl rfl rfl rfl rfl (by exact ovE (mv rfl) rfl), nR rfl rfl rfl rfl rfl (by exact ovE (nck rfl) rfl), nR rfl rfl rfl rfl rfl (by exact ovE (fad rfl Tryd.runUnderlying49 rfl Tryd.sizeOf47 rfl) rfl), nR rfl rfl rfl rfl rfl (by exact ovE (fad rfl Tryd.runUnderlying47 rfl Tryd.sizeOf45 rfl) rfl), nR rfl rfl rfl rfl rfl (by exact ovE (ldb 2 rfl hB5186 rfl rfl Tryd.isAgg45) rfl), trivial⟩) fun D l a w ho hcl hav hpre hm hE hk hA hst => ?_
    have hS := (Ss.mk hE hst).env2 (e' := [(76, .slice A5189 ([] : List Int).length c5190), (81, .slice A5156 x5158.length c5157)]) ⟨rfl, rfl, trivial⟩
    refine op_of_nth rfl ?_
    obtain ⟨hk5193, hM⟩ := wp_chk hM
    refine apV (ys := x5158) 0 hS rfl rfl hV5192 rfl (h5162.rd (i := 7) rfl) Tryd.runUnderlying45 Tryd.runUnderlying45 X.el3 (fun _ => rfl) rfl one_t3 hk5193 rfl fun zs5198 w A5194 c5195 f5196 hz hV5197 hS => ?_
    have hM := lt_to hz hM; clear hz
    refine wpList_nil (then_n ?_)
    replace hst := hS.st
    obtain ⟨hcl, hmust, hav2, hA⟩ := dn (vals' := [some (.slice A5189 ([] : List Int).length c5190), some (ptr b5184 0), some (ptr b5184 0), some (ptr b5184 2), some (ptr b5184 2), some (.slice A5156 x5158.length c5157), some (.slice A5194 zs5198.length c5195), some (ptr b5184 0), some (ptr b5184 0), some (ptr b5184 4), some (ptr b5184 4), some (.slice A5170 x5172.length c5171), none, none, none]) 6 [(0, 6), (5, 6), (4, 5), (3, 4), (2, 3), (1, 2)] hA hcl hav hm hpre hk rfl rfl rfl rfl rfl rfl rfl
    clear hm hav
    refine phq hA hst ho hcl hav2 hmust 12 [7, 8, 9, 10, 11] rfl rfl rfl rfl rfl (by exact ⟨nR rfl rfl rfl rfl rfl (by exact ovE (mv rfl) rfl), nR rfl rfl rfl rfl rfl (by exact ovE (nck rfl) rfl), nR rfl rfl rfl rfl rfl (by exact ovE (fad rfl Tryd.runUnderlying49 rfl Tryd.sizeOf47 rfl) rfl), nR rfl rfl rfl rfl rfl (by exact ovE (fad rfl Tryd.runUnderlying47 rfl Tryd.sizeOf45 rfl) rfl), nR rfl rfl rfl rfl rfl (by exact ovE (ldb 2 rfl hB5186 rfl rfl Tryd.isAgg45) rfl), trivial⟩) fun D l a w ho hcl hav hpre hm hE hk hA hst => ?_
    have hS := (Ss.mk hE hst).env2 (e' := [(82, .slice A5194 zs5198.length c5195), (87, .slice A5170 x5172.length c5171)]) ⟨rfl, rfl, trivial⟩
    refine op_of_nth rfl ?_
    obtain ⟨hk5199, hM⟩ := wp_chk hM
    refine apV (ys := x5172) 0 hS rfl rfl hV5197 rfl (h5176.rd (i := 4) rfl) Tryd.runUnderlying45 Tryd.runUnderlying45 X.el3 (fun _ => rfl) rfl one_t3 hk5199 rfl fun zs5204 w A5200 c5201 f5202 hz hV5203 hS => ?_
    have hM := lt_to hz hM; clear hz
    refine wpList_nil (then_n ?_)
    replace hst := hS.st
    obtain ⟨hcl, hmust, hav2, hA⟩ := dn (vals' := [some (.slice A5189 ([] : List Int).length c5190), some (ptr b5184 0), some (ptr b5184 0), some (ptr b5184 2), some (ptr b5184 2), some (.slice A5156 x5158.length c5157), some (.slice A5194 zs5198.length c5195), some (ptr b5184 0), some (ptr b5184 0), some (ptr b5184 4), some (ptr b5184 4), some (.slice A5170 x5172.length c5171), some (.slice A5200 zs5204.length c5201), none, none]) 12 [(6, 12), (11, 12), (0, 6), (5, 6), (10, 11), (4, 5), (9, 10), (3, 4), (8, 9), (2, 3), (7, 8), (1, 2)] hA hcl hav hm hpre hk rfl rfl rfl rfl rfl rfl rfl
    clear hm hav
    refine phq hA hst ho hcl hav2 hmust 13 [] rfl rfl rfl rfl rfl trivial fun D l a w ho hcl hav hpre hm hE hk hA hst => ?_
    have hS := (Ss.mk hE hst).env2 (e' := [(88, .slice A5200 zs5204.length c5201)]) ⟨rfl, trivial⟩
    refine op_of_nth rfl <| s_call hS rfl Tryd.call39 (deflate_packed_c hG K zs5204 A5200 c5201 (hV5203.rdF (i := 0) rfl) (hV5203.cap (fun _ => rfl) rfl) (hS.st.part 0 [0, 1, 2, 3, 4, 5, 6, 7, 8] (by kernel_rfl)) (wp_bind hM) (fun A5371 c5372 x5373 f5374 w hM h5375 hst => s_back hS.ev hst.appF rfl fun hS => ?_))
    replace hS : Ss _ _ _ H [f5374, f5202, f5187, f5185, f5182, f5173, f5175, f5168, f5159, f5161] F _ _ := hS
    refine wpList_nil (then_n ?_)
    replace hst := hS.st
    obtain ⟨hcl, hmust, hav2, hA⟩ := dn (vals' := [some (.slice A5189 ([] : List Int).length c5190), some (ptr b5184 0), some (ptr b5184 0), some (ptr b5184 2), some (ptr b5184 2), some (.slice A5156 x5158.length c5157), some (.slice A5194 zs5198.length c5195), some (ptr b5184 0), some (ptr b5184 0), some (ptr b5184 4), some (ptr b5184 4), some (.slice A5170 x5172.length c5171), some (.slice A5200 zs5204.length c5201), some (.slice A5371 x5373.length c5372), some (.slice A5371 x5373.length c5372)]) 13 [(12, 13), (6, 12), (11, 12), (0, 6), (5, 6), (10, 11), (4, 5), (9, 10), (3, 4), (8, 9), (2, 3), (7, 8), (1, 2)] hA hcl hav hm hpre hk rfl rfl rfl rfl rfl rfl rfl
    clear hm hav
    refine phqE hA hst ho hcl hmust [14] rfl rfl rfl (by exact ⟨nR rfl rfl rfl rfl rfl (by exact ovE (asg rfl) rfl), trivial⟩) fun a w hS => ?_
    replace hS := hS.env2 (e' := [(0, .slice A1215 l_1214.length c1216), (8, ptr b5184 0), (9, .slice A5371 x5373.length c5372)]) ⟨rfl, rfl, rfl, trivial⟩
    refine then_n <| wp_seq <| wp_region_list ?_
    obtain ⟨hk5376, hM⟩ := wp_chk hM
    refine mkS (g := (ci .i64)) (m := (19 : Int)) (0 : Int) hS rfl rfl (by simp) Tryd.runUnderlying45 X.el3 (fun w => ⟨_, Tryd.zeroValue3 w, rfl⟩) (fun _ => rfl) rfl rfl hk5376 rfl fun zs5381 w A5377 c5378 f5379 hz hV5380 hS => ?_
    have hM := lt_to hz hM; clear hz
    refine st1 hS (asg rfl) rfl fun a w hS => wpList_nil <| then_n <| seq_joinJ (fun a w => ∃ (often5418 : (List Int)) (f5419 : Frag), Ss 196 [] [(0, .slice A1215 l_1214.length c1216), (8, ptr b5184 0), (9, .slice A5371 x5373.length c5372), (10, .slice A5377 often5418.length c5378)] H [f5185, f5187, f5159, f5168, f5173, f5182, f5374, f5419] F a w ∧ (Vec 3 (ci .i64) 1 A5377 often5418 c5378 f5419) ∧ (deflate_Dynamic.j5 K l_1214 x5158 codes5167 x5172 codes5181 x5373 often5418).wp kr kp) (fun J5421 hJ5421 => ?_) ?_
    ·refine wp_seq ?_
     refine wp_region_list <| st1 hS (mv rfl) rfl fun a w hS => st1 hS (lenV rfl Tryd.runUnderlying72) rfl fun a w hS => st1 hS (mv rfl) rfl fun a w hS => wpList_nil <| then_n <| wp_block <| s_loopJ (fun k5404 a w => ∃ (often5400 : (List Int)) (f5401 : Frag) (v5403 : Int), Ss 196 [] [(0, .slice A1215 l_1214.length c1216), (8, ptr b5184 0), (9, .slice A5371 x5373.length c5372), (10, .slice A5377 often5400.length c5378), (91, .slice A5371 x5373.length c5372), (92, .int .i64 (x5373.length : Int)), (93, .int .i64 v5403)] H [f5185, f5187, f5159, f5168, f5173, f5182, f5374, f5401] F a w ∧ (Vec 3 (ci .i64) 1 A5377 often5400 c5378 f5401) ∧ (deflate_Dynamic.l4 K l_1214 x5158 codes5167 x5172 codes5181 x5373 k5404 often5400 v5403).wp kr kp) K ?_ ?_ ?_
     ·exact ⟨zs5381, f5379, (0 : Int), hS.to [4, 3, 9, 8, 6, 5, 1, 0] (by kernel_rfl) ⟨rfl, rfl, rfl, rfl, rfl, rfl, rfl, trivial⟩, hV5380, hM⟩
     ·intro a w hI; obtain ⟨_, _, _, _, _, hM⟩ := hI; exact wp_fail hM
     ·intro k5404 a w hI J5417 hJ5417
      obtain ⟨often5400, f5401, v5403, hS, hV5402, hM⟩ := hI
      rw [deflate_Dynamic.l4] at hM
      refine wp_seq <| wp_region_list <| st1 hS (bin rfl rfl rfl) rfl fun a w hS => wpList_nil <| then_n <| wp_seq <| s_cond hS rfl hM (fun hb5405 hM => ?_) (fun hb5405 hM => ?_)
      ·refine wp_skip ?_
       refine then_n <| wp_seq <| wp_block <| wp_seq <| wp_region_list ?_
       obtain ⟨hk5406, hM⟩ := wp_chk hM
       refine st1 hS (ixV rfl rfl Tryd.runUnderlying72 Tryd.sizeOf75 (h5375.rd (i := 6) rfl) (fun _ => rfl) rfl hk5406) rfl fun a w hS => st1 hS (ldVA rfl (h5375.rd (i := 6) rfl) (fun _ => rfl) hk5406 Tryd.isAgg75 Tryd.sizeOf75 rfl) rfl fun a w hS => alc ([.int .i64 (0 : Int), .int .i64 (0 : Int), .int .i64 (0 : Int)]) hS Tryd.zeroValue75 rfl rfl fun w b5407 f5408 hB5409 hS => stB 0 ([.int .i64 ((rd x5373 v5403).symbol_), .int .i64 ((rd x5373 v5403).more_), .int .i64 ((rd x5373 v5403).bits_)]) ([.int .i64 ((rd x5373 v5403).symbol_), .int .i64 ((rd x5373 v5403).more_), .int .i64 ((rd x5373 v5403).bits_)]) hS rfl rfl hB5409 rfl rfl Tryd.sizeOf75 (by simp [Value.oneCell']) (Nat.le_of_ble_eq_true rfl) rfl fun w f5410 hB5411 hS => wpList_nil <| then_n <| wp_region_list <| st1 hS (mv rfl) rfl fun a w hS => st1 hS (fad rfl Tryd.runUnderlying75 rfl Tryd.sizeOf3 rfl) rfl fun a w hS => st1 hS (ldb 0 rfl hB5411 rfl rfl Tryd.isAgg3) rfl fun a w hS => ?_
       obtain ⟨hk5412, hM⟩ := wp_chk hM
       refine st1 hS (ixV rfl rfl Tryd.runUnderlying45 Tryd.sizeOf3 (hV5402.rd (i := 8) rfl) (fun _ => rfl) rfl hk5412) rfl fun a w hS => st1 hS (ldV0 rfl (hV5402.rd (i := 8) rfl) (fun _ => rfl) hk5412 rfl Tryd.isAgg3) rfl fun a w hS => st1 hS (bin rfl rfl rfl) rfl fun a w hS => st1 hS (ixV rfl rfl Tryd.runUnderlying45 Tryd.sizeOf3 (hV5402.rd (i := 8) rfl) (fun _ => rfl) rfl hk5412) rfl fun a w hS => stV (i := (rd x5373 v5403).symbol_) (sz := 1) 8 0 ((w64 ((rd often5400 (rd x5373 v5403).symbol_) + (1 : Int)))) hS rfl rfl hV5402 rfl Tryd.sizeOf3 (one_t3 (w64 ((rd often5400 (rd x5373 v5403).symbol_) + (1 : Int)))) (fun _ => rfl) hk5412 rfl rfl fun zs5415 w f5413 hz hz5416 hV5414 hS => ?_
       have hM := lt_to hz hM; clear hz
       replace hS := hS.re 10 (u := .slice A5377 often5400.length c5378) (v := .slice A5377 zs5415.length c5378) rfl (by rw [hz5416])
       replace hS := hS.re 97 (u := .slice A5377 often5400.length c5378) (v := .slice A5377 zs5415.length c5378) rfl (by rw [hz5416])
       refine wpList_nil <| blk_n (then_n ?_)
       refine wp_region_list <| st1 hS (bin rfl rfl rfl) rfl fun a w hS => st1 hS (mv rfl) rfl fun a w hS => wpList_nil <| then_n ?_
       exact hJ5417 _ _ ⟨zs5415, f5413, (w64 (v5403 + (1 : Int))), hS.to [1, 2, 3, 4, 5, 6, 7, 8] (by kernel_rfl) ⟨rfl, rfl, rfl, rfl, rfl, rfl, rfl, trivial⟩, hV5414, hM⟩
      ·refine wp_exit ?_
       refine then_ex (then_ex (blk_same (then_n ?_)))
       exact hJ5421 _ _ ⟨often5400, f5401, hS.to [0, 1, 2, 3, 4, 5, 6, 7] (by kernel_rfl) ⟨rfl, rfl, rfl, rfl, trivial⟩, hV5402, hM⟩
    ·intro a w hI
     obtain ⟨often5418, f5419, hS, hV5420, hM⟩ := hI
     rw [deflate_Dynamic.j5] at hM
     refine wp_seq <| wp_region_list <| st1 hS (asg rfl) rfl fun a w hS => wpList_nil <| then_n <| seq_joinJ (fun a w => ∃ (n_5430 : Int), Ss 196 [] [(0, .slice A1215 l_1214.length c1216), (8, ptr b5184 0), (9, .slice A5371 x5373.length c5372), (10, .slice A5377 often5418.length c5378), (13, .int .i64 n_5430)] H [f5185, f5187, f5159, f5168, f5173, f5182, f5374, f5419] F a w ∧ (deflate_Dynamic.j7 K l_1214 x5158 codes5167 x5172 codes5181 x5373 often5418 n_5430).wp kr kp) (fun J5431 hJ5431 => ?_) ?_
     ·refine wp_seq ?_
      refine wp_region_list <| st1 hS (mv rfl) rfl fun a w hS => st1 hS (lenV rfl Tryd.runUnderlying45) rfl fun a w hS => st1 hS (mv rfl) rfl fun a w hS => wpList_nil <| then_n <| wp_block <| s_loopJ (fun k5424 a w => ∃ (n_5422 : Int) (v5423 : Int), Ss 196 [] [(0, .slice A1215 l_1214.length c1216), (8, ptr b5184 0), (9, .slice A5371 x5373.length c5372), (10, .slice A5377 often5418.length c5378), (13, .int .i64 n_5422), (105, .slice A5377 often5418.length c5378), (106, .int .i64 (often5418.length : Int)), (107, .int .i64 v5423)] H [f5185, f5187, f5159, f5168, f5173, f5182, f5374, f5419] F a w ∧ (deflate_Dynamic.l6 K l_1214 x5158 codes5167 x5172 codes5181 x5373 often5418 k5424 n_5422 v5423).wp kr kp) K ?_ ?_ ?_
      ·exact ⟨(0 : Int), (0 : Int), hS.to [0, 1, 2, 3, 4, 5, 6, 7] (by kernel_rfl) ⟨rfl, rfl, rfl, rfl, rfl, rfl, rfl, rfl, trivial⟩, hM⟩
      ·intro a w hI; obtain ⟨_, _, _, hM⟩ := hI; exact wp_fail hM
      ·intro k5424 a w hI J5429 hJ5429
       obtain ⟨n_5422, v5423, hS, hM⟩ := hI
       rw [deflate_Dynamic.l6] at hM
       refine wp_seq <| wp_region_list <| st1 hS (bin rfl rfl rfl) rfl fun a w hS => wpList_nil <| then_n <| wp_seq <| s_cond hS rfl hM (fun hb5425 hM => ?_) (fun hb5425 hM => ?_)
       ·refine wp_skip ?_
        refine then_n <| wp_seq <| wp_block <| wp_seq <| wp_region_list ?_
        obtain ⟨hk5426, hM⟩ := wp_chk hM
        refine st1 hS (ixV rfl rfl Tryd.runUnderlying45 Tryd.sizeOf3 (hV5420.rd (i := 7) rfl) (fun _ => rfl) rfl hk5426) rfl fun a w hS => st1 hS (ldV0 rfl (hV5420.rd (i := 7) rfl) (fun _ => rfl) hk5426 rfl Tryd.isAgg3) rfl fun a w hS => st1x (v := Value.int .i64) (x0 := (rd often5418 v5423)) hS (asg rfl) rfl fun k_5427 a w hz hS => ?_
        have hM := lt_to hz hM; clear hz
        refine wpList_nil <| then_n <| wp_region_list <| st1 hS (mv rfl) rfl fun a w hS => st1 hS (mv rfl) rfl fun a w hS => st1 hS (minI rfl rfl) rfl fun a w hS => st1 hS (bin rfl rfl rfl) rfl fun a w hS => st1x (v := Value.int .i64) (x0 := (w64 (n_5422 + (if (1 : Int) < k_5427 then (1 : Int) else k_5427)))) hS (asg rfl) rfl fun n_5428 a w hz hS => ?_
        have hM := lt_to hz hM; clear hz
        refine wpList_nil <| blk_n (then_n ?_)
        refine wp_region_list <| st1 hS (bin rfl rfl rfl) rfl fun a w hS => st1 hS (mv rfl) rfl fun a w hS => wpList_nil <| then_n ?_
        exact hJ5429 _ _ ⟨n_5428, (w64 (v5423 + (1 : Int))), hS.to [0, 1, 2, 3, 4, 5, 6, 7] (by kernel_rfl) ⟨rfl, rfl, rfl, rfl, rfl, rfl, rfl, rfl, trivial⟩, hM⟩
       ·refine wp_exit ?_
        refine then_ex (then_ex (blk_same (then_n ?_)))
        exact hJ5431 _ _ ⟨n_5422, hS.to [0, 1, 2, 3, 4, 5, 6, 7] (by kernel_rfl) ⟨rfl, rfl, rfl, rfl, rfl, trivial⟩, hM⟩
     ·intro a w hI
      obtain ⟨n_5430, hS, hM⟩ := hI
      rw [deflate_Dynamic.j7] at hM
      refine seq_joinJ (fun a w => ∃ (often5447 : (List Int)) (f5448 : Frag), Ss 196 [] [(0, .slice A1215 l_1214.length c1216), (8, ptr b5184 0), (9, .slice A5371 x5373.length c5372), (10, .slice A5377 often5447.length c5378)] H [f5185, f5187, f5159, f5168, f5173, f5182, f5374, f5448] F a w ∧ (Vec 3 (ci .i64) 1 A5377 often5447 c5378 f5448) ∧ (deflate_Dynamic.j8 K l_1214 x5158 codes5167 x5172 codes5181 x5373 often5447).wp kr kp) (fun J5450 hJ5450 => ?_) ?_
      ·refine wp_seq ?_
       refine wp_region_list <| st1 hS (mv rfl) rfl fun a w hS => st1 hS (bin rfl rfl rfl) rfl fun a w hS => wpList_nil <| then_n <| s_cond hS rfl hM (fun hb5432 hM => ?_) (fun hb5432 hM => ?_)
       ·obtain ⟨hk5434, hM⟩ := wp_chk hM
        obtain ⟨hk5436, hM⟩ := wp_chk hM
        refine draw_begin (vals := [some (.slice A5377 often5418.length c5378), some (.slice A5377 often5418.length c5378), some (.slice A5377 often5418.length c5378), some (slp A5377 (Int.toNat (0 : Int) * 1)), some (.int .i64 (rd often5418 (0 : Int))), some (.int .i64 (if (1 : Int) > (rd often5418 (0 : Int)) then (1 : Int) else (rd often5418 (0 : Int)))), some (.slice A5377 often5418.length c5378), some (slp A5377 (Int.toNat (1 : Int) * 1)), some (.int .i64 (rd often5418 (1 : Int))), some (.int .i64 (if (1 : Int) > (rd often5418 (1 : Int)) then (1 : Int) else (rd often5418 (1 : Int)))), some (slp A5377 (Int.toNat (0 : Int) * 1)), none, none, none]) hS mixed rfl ?_
        intro l w ho hcl hA hst
        refine phq hA hst ho hcl navail nmust 11 [0, 1, 2, 3, 4, 5, 6, 7, 8, 9, 10] rfl rfl rfl rfl rfl (by exact ⟨nR rfl rfl rfl rfl rfl (by exact ovE (mv rfl) rfl), nR rfl rfl rfl rfl rfl (by exact ovE (mv rfl) rfl), nR rfl rfl rfl rfl rfl (by exact ovE (mv rfl) rfl), nR rfl rfl rfl rfl rfl (by exact ovE (ixV rfl rfl Tryd.runUnderlying45 Tryd.sizeOf3 (hV5420.rd (i := 7) rfl) (fun _ => rfl) rfl hk5434) rfl), nR rfl rfl rfl rfl rfl (by exact ovE (ldV0 rfl (hV5420.rd (i := 7) rfl) (fun _ => rfl) hk5434 rfl Tryd.isAgg3) rfl), nR rfl rfl rfl rfl rfl (by exact ovE (maxI rfl rfl) rfl), nR rfl rfl rfl rfl rfl (by exact ovE (mv rfl) rfl), nR rfl rfl rfl rfl rfl (by exact ovE (ixV rfl rfl Tryd.runUnderlying45 Tryd.sizeOf3 (hV5420.rd (i := 7) rfl) (fun _ => rfl) rfl hk5436) rfl), nR rfl rfl rfl rfl rfl (by exact ovE (ldV0 rfl (hV5420.rd (i := 7) rfl) (fun _ => rfl) hk5436 rfl Tryd.isAgg3) rfl), nR rfl rfl rfl rfl rfl (by exact ovE (maxI rfl rfl) rfl), nR rfl rfl rfl rfl rfl (by exact ovE (ixV rfl rfl Tryd.runUnderlying45 Tryd.sizeOf3 (hV5420.rd (i := 7) rfl) (fun _ => rfl) rfl hk5434) rfl), trivial⟩) fun D l a w ho hcl hav hpre hm hE hk hA hst => ?_
        have hS := (Ss.mk hE hst).env2 (e' := [(123, .int .i64 (if (1 : Int) > (rd often5418 (0 : Int)) then (1 : Int) else (rd often5418 (0 : Int)))), (128, slp A5377 (Int.toNat (0 : Int) * 1))]) ⟨rfl, rfl, trivial⟩
        refine op_of_nth rfl <| stV (i := (0 : Int)) (sz := 1) 7 0 ((if (1 : Int) > (rd often5418 (0 : Int)) then (1 : Int) else (rd often5418 (0 : Int)))) hS rfl rfl hV5420 rfl Tryd.sizeOf3 (one_t3 (if (1 : Int) > (rd often5418 (0 : Int)) then (1 : Int) else (rd often5418 (0 : Int)))) (fun _ => rfl) hk5434 rfl rfl fun zs5439 w f5437 hz hz5440 hV5438 hS => ?_
        have hM := lt_to hz hM; clear hz
        refine wpList_nil (then_n ?_)
        replace hst := hS.st
        obtain ⟨hk5442, hM⟩ := wp_chk hM
        obtain ⟨hcl, hmust, hav2, hA⟩ := dnN (vals' := [some (.slice A5377 often5418.length c5378), some (.slice A5377 often5418.length c5378), some (.slice A5377 often5418.length c5378), some (slp A5377 (Int.toNat (0 : Int) * 1)), some (.int .i64 (rd often5418 (0 : Int))), some (.int .i64 (if (1 : Int) > (rd often5418 (0 : Int)) then (1 : Int) else (rd often5418 (0 : Int)))), some (.slice A5377 often5418.length c5378), some (slp A5377 (Int.toNat (1 : Int) * 1)), some (.int .i64 (rd often5418 (1 : Int))), some (.int .i64 (if (1 : Int) > (rd often5418 (1 : Int)) then (1 : Int) else (rd often5418 (1 : Int)))), some (slp A5377 (Int.toNat (0 : Int) * 1)), some undef, some (slp A5377 (Int.toNat (1 : Int) * 1)), none]) 11 [(0, 11), (2, 11), (3, 11), (4, 11), (5, 11), (8, 11), (10, 11), (7, 8), (6, 7)] hA hcl hav hm hpre rfl rfl rfl rfl rfl
        clear hm hav
        refine phq hA hst ho hcl hav2 hmust 13 [1, 9, 12] rfl rfl rfl rfl rfl (by exact ⟨nR rfl rfl rfl rfl rfl (by exact ovE (mv rfl) rfl), nR rfl rfl rfl rfl rfl (by exact ovE (maxI rfl rfl) rfl), nR rfl rfl rfl rfl rfl (by exact ovE (ixV (lenx hz5440 rfl) rfl Tryd.runUnderlying45 Tryd.sizeOf3 (hV5438.rd (i := 7) rfl) (fun _ => rfl) rfl hk5442) rfl), trivial⟩) fun D l a w ho hcl hav hpre hm hE hk hA hst => ?_
        have hS := (Ss.mk hE hst).env2 (e' := [(127, .int .i64 (if (1 : Int) > (rd often5418 (1 : Int)) then (1 : Int) else (rd often5418 (1 : Int)))), (129, slp A5377 (Int.toNat (1 : Int) * 1))]) ⟨rfl, rfl, trivial⟩
        refine op_of_nth rfl <| stV (i := (1 : Int)) (sz := 1) 7 0 ((if (1 : Int) > (rd often5418 (1 : Int)) then (1 : Int) else (rd often5418 (1 : Int)))) hS rfl rfl hV5438 rfl Tryd.sizeOf3 (one_t3 (if (1 : Int) > (rd often5418 (1 : Int)) then (1 : Int) else (rd often5418 (1 : Int)))) (fun _ => rfl) hk5442 rfl rfl fun zs5445 w f5443 hz hz5446 hV5444 hS => ?_
        have hM := lt_to hz hM; clear hz
        refine wpList_nil (then_n ?_)
        replace hst := hS.st
        obtain ⟨hcl, hmust, hav2, hA⟩ := dnN (vals' := [some (.slice A5377 often5418.length c5378), some (.slice A5377 often5418.length c5378), some (.slice A5377 often5418.length c5378), some (slp A5377 (Int.toNat (0 : Int) * 1)), some (.int .i64 (rd often5418 (0 : Int))), some (.int .i64 (if (1 : Int) > (rd often5418 (0 : Int)) then (1 : Int) else (rd often5418 (0 : Int)))), some (.slice A5377 often5418.length c5378), some (slp A5377 (Int.toNat (1 : Int) * 1)), some (.int .i64 (rd often5418 (1 : Int))), some (.int .i64 (if (1 : Int) > (rd often5418 (1 : Int)) then (1 : Int) else (rd often5418 (1 : Int)))), some (slp A5377 (Int.toNat (0 : Int) * 1)), some undef, some (slp A5377 (Int.toNat (1 : Int) * 1)), some undef]) 13 [(0, 13), (1, 13), (2, 13), (3, 13), (4, 13), (5, 13), (6, 13), (7, 13), (8, 13), (9, 13), (10, 13), (11, 13), (12, 13)] hA hcl hav hm hpre rfl rfl rfl rfl rfl
        clear hm hav
        refine phqE hA hst ho hcl hmust [] rfl rfl rfl trivial fun a w hS => ?_
        replace hS := hS.env2 (e' := [(0, .slice A1215 l_1214.length c1216), (8, ptr b5184 0), (9, .slice A5371 x5373.length c5372), (10, .slice A5377 zs5445.length c5378)]) ⟨rfl, rfl, rfl, (relk (u := .slice A5377 often5418.length c5378) rfl (by rw [hz5446, hz5440])), trivial⟩
        refine then_n ?_
        exact hJ5450 _ _ ⟨zs5445, f5443, hS.to [0, 1, 2, 3, 4, 5, 6, 7] (by kernel_rfl) ⟨rfl, rfl, rfl, rfl, trivial⟩, hV5444, hM⟩
       ·refine wp_skip ?_
        refine then_n ?_
        exact hJ5450 _ _ ⟨often5418, f5419, hS.to [0, 1, 2, 3, 4, 5, 6, 7] (by kernel_rfl) ⟨rfl, rfl, rfl, rfl, trivial⟩, hV5420, hM⟩
      ·intro a w hI
       obtain ⟨often5447, f5448, hS, hV5449, hM⟩ := hI
       rw [deflate_Dynamic.j8] at hM
       refine wp_seq <| wp_region_list <| st1 hS (mv rfl) rfl fun a w hS => s_call hS rfl Tryd.call40 (huff_Lengths_c hG K often5447 (7 : Int) A5377 c5378 (hV5449.rdF (i := 7) rfl) (hV5449.cap (fun _ => rfl) rfl) (hS.st.part 0 [0, 1, 2, 3, 4, 5, 6, 7] (by kernel_rfl)) (wp_bind hM) (fun A5451 c5452 x5453 f5454 x5455 w hM h5456 hst => s_back hS.ev hst.appF rfl fun hS => ?_) (fun v w hk hst => s_pan (then_pan (⟨hS.ev.defs, hpan _ _ hk hst.appF.frame⟩))))
       replace hS : Ss _ _ _ H [f5454, f5185, f5187, f5159, f5168, f5173, f5182, f5374, f5448] F _ _ := hS
       refine st1 hS (mv rfl) rfl fun a w hS => st1 hS (ex rfl rfl) rfl fun a w hS => st1 hS (ex rfl rfl) rfl fun a w hS => st1 hS (asg rfl) rfl fun a w hS => st1 hS (asg rfl) rfl fun a w hS => wpList_nil <| then_n <| wp_seq <| wp_region_list <| st1 hS (mv rfl) rfl fun a w hS => s_call hS rfl Tryd.call37 (deflate_coded_c hG K x5453 A5451 c5452 (h5456.rdF (i := 0) rfl) (h5456.cap (fun _ => rfl) rfl) (hS.st.part 0 [0, 1, 2, 3, 4, 5, 6, 7, 8] (by kernel_rfl)) (wp_bind hM) (fun A5457 c5458 codes5459 f5460 w hM h5461 hst => s_back hS.ev hst.appF rfl fun hS => ?_))
       replace hS : Ss _ _ _ H [f5460, f5454, f5185, f5187, f5159, f5168, f5173, f5182, f5374, f5448] F _ _ := hS
       refine alc ([.slice none 0 0, .slice none 0 0]) hS Tryd.zeroValue47 rfl rfl fun w b5462 f5463 hB5464 hS => ?_
       obtain ⟨f5465, hV5466, hS⟩ := hS.nilV 3 (ci .i64) 1
       obtain ⟨f5467, hV5468, hS⟩ := hS.nilV 3 (ci .i64) 1
       refine stB 2 ([.slice A5451 x5453.length c5452, .slice A5457 codes5459.length c5458]) ([.slice A5451 x5453.length c5452, .slice A5457 codes5459.length c5458]) hS rfl rfl hB5464 rfl rfl Tryd.sizeOf47 (by simp [Value.oneCell']) (Nat.le_of_ble_eq_true rfl) rfl fun w f5469 hB5470 hS => wpList_nil <| then_n <| wp_seq <| wp_region_list <| st1 hS (mv rfl) rfl fun a w hS => st1 hS (nck rfl) rfl fun a w hS => st1 hS (fad rfl Tryd.runUnderlying49 rfl Tryd.sizeOf44 rfl) rfl fun a w hS => s_call hS rfl Tryd.call23 (bits_Writer_Put_deflate_writer_c hG K (T_deflate_writer.mk (T_bits_Writer.mk (T_bits_place.mk (0 : Int)) ([] : List Int)) (T_deflate_code.mk x5158 codes5167) (T_deflate_code.mk x5172 codes5181)) (5 : Int) (3 : Int) b5184 f5185 none (0) f5187 A5156 c5157 f5159 A5165 c5166 f5168 A5170 c5171 f5173 A5179 c5180 f5182 hB5186 hV5188 h5162 h5169 h5176 h5183 (hS.st.part 6 [5, 6, 7, 8, 9, 10, 0, 1, 2, 3, 4, 11, 12] (by kernel_rfl)) (wp_bind hM) (fun x5471 at_5472 A5473 c5474 bytes5475 f5476 f5477 w hM h5478 h5479 hst => s_back hS.ev hst.appF rfl fun hS => ?_))
       replace hS : Ss _ _ _ H [f5477, f5476, f5159, f5168, f5173, f5182, f5467, f5465, f5469, f5460, f5454, f5374, f5448] F _ _ := hS
       refine wpList_nil <| then_n <| wp_seq <| wp_region_list <| st1 hS (mv rfl) rfl fun a w hS => st1 hS (nck rfl) rfl fun a w hS => st1 hS (fad rfl Tryd.runUnderlying49 rfl Tryd.sizeOf44 rfl) rfl fun a w hS => s_call hS rfl Tryd.call23 (bits_Writer_Put_deflate_writer_c hG K (T_deflate_writer.mk (T_bits_Writer.mk (T_bits_place.mk at_5472) bytes5475) (T_deflate_code.mk x5158 codes5167) (T_deflate_code.mk x5172 codes5181)) (29 : Int) (5 : Int) b5184 f5477 A5473 c5474 f5476 A5156 c5157 f5159 A5165 c5166 f5168 A5170 c5171 f5173 A5179 c5180 f5182 h5479 h5478 h5162 h5169 h5176 h5183 (hS.st.part 6 [0, 1, 2, 3, 4, 5, 6, 7, 8, 9, 10, 11, 12] (by kernel_rfl)) (wp_bind hM) (fun x5480 at_5481 A5482 c5483 bytes5484 f5485 f5486 w hM h5487 h5488 hst => s_back hS.ev hst.appF rfl fun hS => ?_))
       replace hS : Ss _ _ _ H [f5486, f5485, f5159, f5168, f5173, f5182, f5467, f5465, f5469, f5460, f5454, f5374, f5448] F _ _ := hS
       refine wpList_nil <| then_n <| wp_seq <| wp_region_list <| st1 hS (mv rfl) rfl fun a w hS => st1 hS (nck rfl) rfl fun a w hS => st1 hS (fad rfl Tryd.runUnderlying49 rfl Tryd.sizeOf44 rfl) rfl fun a w hS => s_call hS rfl Tryd.call23 (bits_Writer_Put_deflate_writer_c hG K (T_deflate_writer.mk (T_bits_Writer.mk (T_bits_place.mk at_5481) bytes5484) (T_deflate_code.mk x5158 codes5167) (T_deflate_code.mk x5172 codes5181)) (29 : Int) (5 : Int) b5184 f5486 A5482 c5483 f5485 A5156 c5157 f5159 A5165 c5166 f5168 A5170 c5171 f5173 A5179 c5180 f5182 h5488 h5487 h5162 h5169 h5176 h5183 (hS.st.part 6 [0, 1, 2, 3, 4, 5, 6, 7, 8, 9, 10, 11, 12] (by kernel_rfl)) (wp_bind hM) (fun x5489 at_5490 A5491 c5492 bytes5493 f5494 f5495 w hM h5496 h5497 hst => s_back hS.ev hst.appF rfl fun hS => ?_))
       replace hS : Ss _ _ _ H [f5495, f5494, f5159, f5168, f5173, f5182, f5467, f5465, f5469, f5460, f5454, f5374, f5448] F _ _ := hS
       refine wpList_nil <| then_n <| wp_seq <| wp_region_list <| st1 hS (mv rfl) rfl fun a w hS => st1 hS (nck rfl) rfl fun a w hS => st1 hS (fad rfl Tryd.runUnderlying49 rfl Tryd.sizeOf44 rfl) rfl fun a w hS => s_call hS rfl Tryd.call23 (bits_Writer_Put_deflate_writer_c hG K (T_deflate_writer.mk (T_bits_Writer.mk (T_bits_place.mk at_5490) bytes5493) (T_deflate_code.mk x5158 codes5167) (T_deflate_code.mk x5172 codes5181)) (15 : Int) (4 : Int) b5184 f5495 A5491 c5492 f5494 A5156 c5157 f5159 A5165 c5166 f5168 A5170 c5171 f5173 A5179 c5180 f5182 h5497 h5496 h5162 h5169 h5176 h5183 (hS.st.part 6 [0, 1, 2, 3, 4, 5, 6, 7, 8, 9, 10, 11, 12] (by kernel_rfl)) (wp_bind hM) (fun x5498 at_5499 A5500 c5501 bytes5502 f5503 f5504 w hM h5505 h5506 hst => s_back hS.ev hst.appF rfl fun hS => ?_))
       replace hS : Ss _ _ _ H [f5504, f5503, f5159, f5168, f5173, f5182, f5467, f5465, f5469, f5460, f5454, f5374, f5448] F _ _ := hS
       refine wpList_nil <| then_n <| seq_joinJ (fun a w => ∃ (at_5557 : Int) (A5558 : Option Addr) (c5559 : Nat) (bytes5560 : (List Int)) (f5561 : Frag) (f5563 : Frag), Ss 196 [] [(0, .slice A1215 l_1214.length c1216), (8, ptr b5184 0), (9, .slice A5371 x5373.length c5372), (18, ptr b5462 0)] H [f5563, f5561, f5159, f5168, f5173, f5182, f5374, f5469, f5454, f5460] F a w ∧ (Vec 5 (ci .u8) 1 A5558 bytes5560 c5559 f5561) ∧ (Blk f5563 b5184 ([.int .i64 at_5557, .slice A5558 bytes5560.length c5559, .slice A5156 x5158.length c5157, .slice A5165 codes5167.length c5166, .slice A5170 x5172.length c5171, .slice A5179 codes5181.length c5180]) 49) ∧ (deflate_Dynamic.j10 K l_1214 x5158 codes5167 x5172 codes5181 x5373 x5453 codes5459 at_5557 bytes5560).wp kr kp) (fun J5565 hJ5565 => ?_) ?_
       ·refine wp_seq ?_
        refine wp_region_list <| st1 hS (ldGAr rfl hG.g0 (by rfl) Tryd.isAgg77 Tryd.sizeOf77) rfl fun a w hS => st1 hS (mv rfl) rfl fun a w hS => wpList_nil <| then_n <| wp_block <| s_loopJ (fun k5541 a w => ∃ (at_5532 : Int) (A5533 : Option Addr) (c5534 : Nat) (bytes5535 : (List Int)) (f5536 : Frag) (f5538 : Frag) (v5540 : Int), Ss 196 [] [(0, .slice A1215 l_1214.length c1216), (8, ptr b5184 0), (9, .slice A5371 x5373.length c5372), (18, ptr b5462 0), (153, .agg ⟨tab_deflate_order.flatMap (ci .i64)⟩), (154, .int .i64 v5540)] H [f5538, f5536, f5159, f5168, f5173, f5182, f5374, f5469, f5454, f5460] F a w ∧ (Vec 5 (ci .u8) 1 A5533 bytes5535 c5534 f5536) ∧ (Blk f5538 b5184 ([.int .i64 at_5532, .slice A5533 bytes5535.length c5534, .slice A5156 x5158.length c5157, .slice A5165 codes5167.length c5166, .slice A5170 x5172.length c5171, .slice A5179 codes5181.length c5180]) 49) ∧ (deflate_Dynamic.l9 K l_1214 x5158 codes5167 x5172 codes5181 x5373 x5453 codes5459 k5541 at_5532 bytes5535 v5540).wp kr kp) K ?_ ?_ ?_
        ·exact ⟨at_5499, A5500, c5501, bytes5502, f5503, f5504, (0 : Int), hS.to [0, 1, 2, 3, 4, 5, 11, 8, 10, 9] (by kernel_rfl) ⟨rfl, rfl, rfl, rfl, rfl, rfl, trivial⟩, h5505, h5506, hM⟩
        ·intro a w hI; obtain ⟨_, _, _, _, _, _, _, _, _, _, hM⟩ := hI; exact wp_fail hM
        ·intro k5541 a w hI J5556 hJ5556
         obtain ⟨at_5532, A5533, c5534, bytes5535, f5536, f5538, v5540, hS, hV5537, hB5539, hM⟩ := hI
         rw [deflate_Dynamic.l9] at hM
         refine wp_seq <| wp_region_list <| st1 hS (bin rfl rfl rfl) rfl fun a w hS => wpList_nil <| then_n <| wp_seq <| s_cond hS rfl hM (fun hb5542 hM => ?_) (fun hb5542 hM => ?_)
         ·refine wp_skip ?_
          refine then_n <| wp_seq <| wp_block <| wp_seq <| wp_region_list ?_
          obtain ⟨hk5543, hM⟩ := wp_chk hM
          refine st1 hS (ixA rfl rfl Tryd.runUnderlying77 Tryd.isAgg3 Tryd.sizeOf3 (fun _ => rfl) tab_deflate_order_len hk5543 rfl) rfl fun a w hS => st1x (v := Value.int .i64) (x0 := (rd tab_deflate_order v5540)) hS (asg rfl) rfl fun s5544 a w hz hS => ?_
          have hM := lt_to hz hM; clear hz
          refine wpList_nil <| then_n ?_
          obtain ⟨hk5546, hM⟩ := wp_chk hM
          refine draw_begin (vals := [some (ptr b5184 0), some (ptr b5184 0), some (ptr b5184 0), some (ptr b5462 0), some (.slice A5451 x5453.length c5452), some (.int .i64 s5544), some (slp A5451 (Int.toNat s5544 * 1)), some (.int .i64 (rd x5453 s5544)), some (.int .u32 (wr .u32 (rd x5453 s5544))), none]) hS mixed rfl ?_
          intro l w ho hcl hA hst
          refine phq hA hst ho hcl navail nmust 9 [0, 1, 2, 3, 4, 5, 6, 7, 8] rfl rfl rfl rfl rfl (by exact ⟨nR rfl rfl rfl rfl rfl (by exact ovE (mv rfl) rfl), nR rfl rfl rfl rfl rfl (by exact ovE (nck rfl) rfl), nR rfl rfl rfl rfl rfl (by exact ovE (fad rfl Tryd.runUnderlying49 rfl Tryd.sizeOf44 rfl) rfl), nR rfl rfl rfl rfl rfl (by exact ovE (fad rfl Tryd.runUnderlying47 rfl Tryd.sizeOf45 rfl) rfl), nR rfl rfl rfl rfl rfl (by exact ovE (ldb 7 rfl hB5470 rfl rfl Tryd.isAgg45) rfl), nR rfl rfl rfl rfl rfl (by exact ovE (mv rfl) rfl), nR rfl rfl rfl rfl rfl (by exact ovE (ixV rfl rfl Tryd.runUnderlying45 Tryd.sizeOf3 (h5456.rd (i := 8) rfl) (fun _ => rfl) rfl hk5546) rfl), nR rfl rfl rfl rfl rfl (by exact ovE (ldV0 rfl (h5456.rd (i := 8) rfl) (fun _ => rfl) hk5546 rfl Tryd.isAgg3) rfl), nR rfl rfl rfl rfl rfl (by exact ovE (cvi rfl Tryd.runUnderlying3 Tryd.runUnderlying53) rfl), trivial⟩) fun D l a w ho hcl hav hpre hm hE hk hA hst => ?_
          have hS := (Ss.mk hE hst).env2 (e' := [(159, ptr b5184 0), (165, .int .u32 (wr .u32 (rd x5453 s5544)))]) ⟨rfl, rfl, trivial⟩
          refine op_of_nth rfl <| s_call hS rfl Tryd.call23 (bits_Writer_Put_deflate_writer_c hG K (T_deflate_writer.mk (T_bits_Writer.mk (T_bits_place.mk at_5532) bytes5535) (T_deflate_code.mk x5158 codes5167) (T_deflate_code.mk x5172 codes5181)) (wr .u32 (rd x5453 s5544)) (3 : Int) b5184 f5538 A5533 c5534 f5536 A5156 c5157 f5159 A5165 c5166 f5168 A5170 c5171 f5173 A5179 c5180 f5182 hB5539 hV5537 h5162 h5169 h5176 h5183 (hS.st.part 6 [0, 1, 2, 3, 4, 5, 6, 7, 8, 9] (by kernel_rfl)) (wp_bind hM) (fun x5547 at_5548 A5549 c5550 bytes5551 f5552 f5553 w hM h5554 h5555 hst => s_back hS.ev hst.appF rfl fun hS => ?_))
          replace hS : Ss _ _ _ H [f5553, f5552, f5159, f5168, f5173, f5182, f5374, f5469, f5454, f5460] F _ _ := hS
          refine wpList_nil (then_n ?_)
          replace hst := hS.st
          obtain ⟨hcl, hmust, hav2, hA⟩ := dn (vals' := [some (ptr b5184 0), some (ptr b5184 0), some (ptr b5184 0), some (ptr b5462 0), some (.slice A5451 x5453.length c5452), some (.int .i64 s5544), some (slp A5451 (Int.toNat s5544 * 1)), some (.int .i64 (rd x5453 s5544)), some (.int .u32 (wr .u32 (rd x5453 s5544))), some (.int .i64 x5547)]) 9 [(2, 9), (8, 9), (1, 2), (7, 8), (0, 1), (6, 7), (4, 6), (5, 6), (3, 4)] hA hcl hav hm hpre hk rfl rfl rfl rfl rfl rfl rfl
          clear hm hav
          refine phqE hA hst ho hcl hmust [] rfl rfl rfl trivial fun a w hS => ?_
          replace hS := hS.env2 (e' := [(0, .slice A1215 l_1214.length c1216), (8, ptr b5184 0), (9, .slice A5371 x5373.length c5372), (18, ptr b5462 0), (153, .agg ⟨tab_deflate_order.flatMap (ci .i64)⟩), (154, .int .i64 v5540)]) ⟨rfl, rfl, rfl, rfl, rfl, rfl, trivial⟩
          refine blk_n (then_n ?_)
          refine wp_region_list <| st1 hS (bin rfl rfl rfl) rfl fun a w hS => st1 hS (mv rfl) rfl fun a w hS => wpList_nil <| then_n ?_
          exact hJ5556 _ _ ⟨at_5548, A5549, c5550, bytes5551, f5552, f5553, (w64 (v5540 + (1 : Int))), hS.to [0, 1, 2, 3, 4, 5, 6, 7, 8, 9] (by kernel_rfl) ⟨rfl, rfl, rfl, rfl, rfl, rfl, trivial⟩, h5554, h5555, hM⟩
         ·refine wp_exit ?_
          refine then_ex (then_ex (blk_same (then_n ?_)))
          exact hJ5565 _ _ ⟨at_5532, A5533, c5534, bytes5535, f5536, f5538, hS.to [0, 1, 2, 3, 4, 5, 6, 7, 8, 9] (by kernel_rfl) ⟨rfl, rfl, rfl, rfl, trivial⟩, hV5537, hB5539, hM⟩
       ·intro a w hI
        obtain ⟨at_5557, A5558, c5559, bytes5560, f5561, f5563, hS, hV5562, hB5564, hM⟩ := hI
        rw [deflate_Dynamic.j10] at hM
        refine seq_joinJ (fun a w => ∃ (at_5735 : Int) (A5736 : Option Addr) (c5737 : Nat) (bytes5738 : (List Int)) (f5739 : Frag) (f5741 : Frag), Ss 196 [] [(0, .slice A1215 l_1214.length c1216), (8, ptr b5184 0)] H [f5741, f5739, f5159, f5168, f5173, f5182] F a w ∧ (Vec 5 (ci .u8) 1 A5736 bytes5738 c5737 f5739) ∧ (Blk f5741 b5184 ([.int .i64 at_5735, .slice A5736 bytes5738.length c5737, .slice A5156 x5158.length c5157, .slice A5165 codes5167.length c5166, .slice A5170 x5172.length c5171, .slice A5179 codes5181.length c5180]) 49) ∧ (deflate_Dynamic.j12 K l_1214 x5158 codes5167 x5172 codes5181 at_5735 bytes5738).wp kr kp) (fun J5743 hJ5743 => ?_) ?_
        ·refine wp_seq ?_
         refine wp_region_list <| st1 hS (mv rfl) rfl fun a w hS => st1 hS (lenV rfl Tryd.runUnderlying72) rfl fun a w hS => st1 hS (mv rfl) rfl fun a w hS => wpList_nil <| then_n <| wp_block <| s_loopJ (fun k5709 a w => ∃ (at_5700 : Int) (A5701 : Option Addr) (c5702 : Nat) (bytes5703 : (List Int)) (f5704 : Frag) (f5706 : Frag) (v5708 : Int), Ss 196 [] [(0, .slice A1215 l_1214.length c1216), (8, ptr b5184 0), (18, ptr b5462 0), (168, .slice A5371 x5373.length c5372), (169, .int .i64 (x5373.length : Int)), (170, .int .i64 v5708)] H [f5706, f5704, f5159, f5168, f5173, f5182, f5469, f5454, f5460, f5374] F a w ∧ (Vec 5 (ci .u8) 1 A5701 bytes5703 c5702 f5704) ∧ (Blk f5706 b5184 ([.int .i64 at_5700, .slice A5701 bytes5703.length c5702, .slice A5156 x5158.length c5157, .slice A5165 codes5167.length c5166, .slice A5170 x5172.length c5171, .slice A5179 codes5181.length c5180]) 49) ∧ (deflate_Dynamic.l11 K l_1214 x5158 codes5167 x5172 codes5181 x5373 x5453 codes5459 k5709 at_5700 bytes5703 v5708).wp kr kp) K ?_ ?_ ?_
         ·exact ⟨at_5557, A5558, c5559, bytes5560, f5561, f5563, (0 : Int), hS.to [0, 1, 2, 3, 4, 5, 7, 8, 9, 6] (by kernel_rfl) ⟨rfl, rfl, rfl, rfl, rfl, rfl, trivial⟩, hV5562, hB5564, hM⟩
         ·intro a w hI; obtain ⟨_, _, _, _, _, _, _, _, _, _, hM⟩ := hI; exact wp_fail hM
         ·intro k5709 a w hI J5734 hJ5734
          obtain ⟨at_5700, A5701, c5702, bytes5703, f5704, f5706, v5708, hS, hV5705, hB5707, hM⟩ := hI
          rw [deflate_Dynamic.l11] at hM
          refine wp_seq <| wp_region_list <| st1 hS (bin rfl rfl rfl) rfl fun a w hS => wpList_nil <| then_n <| wp_seq <| s_cond hS rfl hM (fun hb5710 hM => ?_) (fun hb5710 hM => ?_)
          ·refine wp_skip ?_
           refine then_n <| wp_seq <| wp_block <| wp_seq <| wp_region_list ?_
           obtain ⟨hk5711, hM⟩ := wp_chk hM
           refine st1 hS (ixV rfl rfl Tryd.runUnderlying72 Tryd.sizeOf75 (h5375.rd (i := 9) rfl) (fun _ => rfl) rfl hk5711) rfl fun a w hS => st1 hS (ldVA rfl (h5375.rd (i := 9) rfl) (fun _ => rfl) hk5711 Tryd.isAgg75 Tryd.sizeOf75 rfl) rfl fun a w hS => alc ([.int .i64 (0 : Int), .int .i64 (0 : Int), .int .i64 (0 : Int)]) hS Tryd.zeroValue75 rfl rfl fun w b5712 f5713 hB5714 hS => stB 0 ([.int .i64 ((rd x5373 v5708).symbol_), .int .i64 ((rd x5373 v5708).more_), .int .i64 ((rd x5373 v5708).bits_)]) ([.int .i64 ((rd x5373 v5708).symbol_), .int .i64 ((rd x5373 v5708).more_), .int .i64 ((rd x5373 v5708).bits_)]) hS rfl rfl hB5714 rfl rfl Tryd.sizeOf75 (by simp [Value.oneCell']) (Nat.le_of_ble_eq_true rfl) rfl fun w f5715 hB5716 hS => wpList_nil <| then_n <| wp_seq <| wp_region_list <| st1 hS (mv rfl) rfl fun a w hS => st1 hS (ldbA 7 rfl hB5470 rfl ([.slice A5451 x5453.length c5452, .slice A5457 codes5459.length c5458]) rfl rfl Tryd.isAgg47 Tryd.sizeOf47) rfl fun a w hS => st1 hS (fad rfl Tryd.runUnderlying75 rfl Tryd.sizeOf3 rfl) rfl fun a w hS => st1 hS (ldb 0 rfl hB5716 rfl rfl Tryd.isAgg3) rfl fun a w hS => s_call hS rfl Tryd.call41 (deflate_writer_symbol_c hG K (T_deflate_writer.mk (T_bits_Writer.mk (T_bits_place.mk at_5700) bytes5703) (T_deflate_code.mk x5158 codes5167) (T_deflate_code.mk x5172 codes5181)) (T_deflate_code.mk x5453 codes5459) ((rd x5373 v5708).symbol_) b5184 f5706 A5701 c5702 f5704 A5156 c5157 f5159 A5165 c5166 f5168 A5170 c5171 f5173 A5179 c5180 f5182 A5451 c5452 A5457 c5458 hB5707 hV5705 h5162 h5169 h5176 h5183 (h5456.rdF (i := 2) rfl) (h5456.cap (fun _ => rfl) rfl) (h5461.rdF (i := 3) rfl) (h5461.cap (fun _ => rfl) rfl) (hS.st.part 6 [1, 2, 3, 4, 5, 6, 0, 7, 8, 9, 10] (by kernel_rfl)) (wp_bind hM) (fun at_5717 A5718 c5719 bytes5720 f5721 f5722 w hM h5723 h5724 hst => s_back hS.ev hst.appF rfl fun hS => ?_))
           replace hS : Ss _ _ _ H [f5722, f5721, f5159, f5168, f5173, f5182, f5715, f5469, f5454, f5460, f5374] F _ _ := hS
           refine wpList_nil <| then_n <| draw_begin (vals := [some (ptr b5184 0), some (ptr b5184 0), some (ptr b5184 0), some (ptr b5712 1), some (.int .i64 ((rd x5373 v5708).more_)), some (.int .u32 (wr .u32 (rd x5373 v5708).more_)), some (ptr b5712 2), some (.int .i64 ((rd x5373 v5708).bits_)), none]) hS mixed rfl ?_
           intro l w ho hcl hA hst
           refine phq hA hst ho hcl navail nmust 8 [0, 1, 2, 3, 4, 5, 6, 7] rfl rfl rfl rfl rfl (by exact ⟨nR rfl rfl rfl rfl rfl (by exact ovE (mv rfl) rfl), nR rfl rfl rfl rfl rfl (by exact ovE (nck rfl) rfl), nR rfl rfl rfl rfl rfl (by exact ovE (fad rfl Tryd.runUnderlying49 rfl Tryd.sizeOf44 rfl) rfl), nR rfl rfl rfl rfl rfl (by exact ovE (fad rfl Tryd.runUnderlying75 rfl Tryd.sizeOf3 rfl) rfl), nR rfl rfl rfl rfl rfl (by exact ovE (ldb 6 rfl hB5716 rfl rfl Tryd.isAgg3) rfl), nR rfl rfl rfl rfl rfl (by exact ovE (cvi rfl Tryd.runUnderlying3 Tryd.runUnderlying53) rfl), nR rfl rfl rfl rfl rfl (by exact ovE (fad rfl Tryd.runUnderlying75 rfl Tryd.sizeOf3 rfl) rfl), nR rfl rfl rfl rfl rfl (by exact ovE (ldb 6 rfl hB5716 rfl rfl Tryd.isAgg3) rfl), trivial⟩) fun D l a w ho hcl hav hpre hm hE hk hA hst => ?_
           have hS := (Ss.mk hE hst).env2 (e' := [(181, ptr b5184 0), (184, .int .u32 (wr .u32 (rd x5373 v5708).more_)), (186, .int .i64 ((rd x5373 v5708).bits_))]) ⟨rfl, rfl, rfl, trivial⟩
           refine op_of_nth rfl <| s_call hS rfl Tryd.call23 (bits_Writer_Put_deflate_writer_c hG K (T_deflate_writer.mk (T_bits_Writer.mk (T_bits_place.mk at_5717) bytes5720) (T_deflate_code.mk x5158 codes5167) (T_deflate_code.mk x5172 codes5181)) (wr .u32 (rd x5373 v5708).more_) ((rd x5373 v5708).bits_) b5184 f5722 A5718 c5719 f5721 A5156 c5157 f5159 A5165 c5166 f5168 A5170 c5171 f5173 A5179 c5180 f5182 h5724 h5723 h5162 h5169 h5176 h5183 (hS.st.part 6 [0, 1, 2, 3, 4, 5, 6, 7, 8, 9, 10] (by kernel_rfl)) (wp_bind hM) (fun x5725 at_5726 A5727 c5728 bytes5729 f5730 f5731 w hM h5732 h5733 hst => s_back hS.ev hst.appF rfl fun hS => ?_))
           replace hS : Ss _ _ _ H [f5731, f5730, f5159, f5168, f5173, f5182, f5715, f5469, f5454, f5460, f5374] F _ _ := hS
           refine wpList_nil (then_n ?_)
           replace hst := hS.st
           obtain ⟨hcl, hmust, hav2, hA⟩ := dn (vals' := [some (ptr b5184 0), some (ptr b5184 0), some (ptr b5184 0), some (ptr b5712 1), some (.int .i64 ((rd x5373 v5708).more_)), some (.int .u32 (wr .u32 (rd x5373 v5708).more_)), some (ptr b5712 2), some (.int .i64 ((rd x5373 v5708).bits_)), some (.int .i64 x5725)]) 8 [(2, 8), (5, 8), (7, 8), (1, 2), (4, 5), (6, 7), (0, 1), (3, 4)] hA hcl hav hm hpre hk rfl rfl rfl rfl rfl rfl rfl
           clear hm hav
           refine phqE hA hst ho hcl hmust [] rfl rfl rfl trivial fun a w hS => ?_
           replace hS := hS.env2 (e' := [(0, .slice A1215 l_1214.length c1216), (8, ptr b5184 0), (18, ptr b5462 0), (168, .slice A5371 x5373.length c5372), (169, .int .i64 (x5373.length : Int)), (170, .int .i64 v5708)]) ⟨rfl, rfl, rfl, rfl, rfl, rfl, trivial⟩
           refine blk_n (then_n ?_)
           refine wp_region_list <| st1 hS (bin rfl rfl rfl) rfl fun a w hS => st1 hS (mv rfl) rfl fun a w hS => wpList_nil <| then_n ?_
           exact hJ5734 _ _ ⟨at_5726, A5727, c5728, bytes5729, f5730, f5731, (w64 (v5708 + (1 : Int))), hS.to [0, 1, 2, 3, 4, 5, 7, 8, 9, 10] (by kernel_rfl) ⟨rfl, rfl, rfl, rfl, rfl, rfl, trivial⟩, h5732, h5733, hM⟩
          ·refine wp_exit ?_
           refine then_ex (then_ex (blk_same (then_n ?_)))
           exact hJ5743 _ _ ⟨at_5700, A5701, c5702, bytes5703, f5704, f5706, hS.to [0, 1, 2, 3, 4, 5] (by kernel_rfl) ⟨rfl, rfl, trivial⟩, hV5705, hB5707, hM⟩
        ·intro a w hI
         obtain ⟨at_5735, A5736, c5737, bytes5738, f5739, f5741, hS, hV5740, hB5742, hM⟩ := hI
         rw [deflate_Dynamic.j12] at hM
         refine wp_seq <| wp_region_list <| st1 hS (mv rfl) rfl fun a w hS => st1 hS (mv rfl) rfl fun a w hS => s_call hS rfl Tryd.call24 (deflate_writer_tokens_c hG K (T_deflate_writer.mk (T_bits_Writer.mk (T_bits_place.mk at_5735) bytes5738) (T_deflate_code.mk x5158 codes5167) (T_deflate_code.mk x5172 codes5181)) l_1214 b5184 f5741 A5736 c5737 f5739 A5156 c5157 f5159 A5165 c5166 f5168 A5170 c5171 f5173 A5179 c5180 f5182 A1215 c1216 hB5742 hV5740 h5162 h5169 h5176 h5183 (hr1217.app _) hc1218 (hS.st.part 6 [0, 1, 2, 3, 4, 5] (by kernel_rfl)) (wp_bind hM) (fun at_5744 A5745 c5746 bytes5747 f5748 f5749 w hM h5750 h5751 hst => s_back hS.ev hst.appF rfl fun hS => ?_))
         replace hS : Ss _ _ _ H [f5749, f5748, f5159, f5168, f5173, f5182] F _ _ := hS
         refine wpList_nil <| then_n <| wp_seq <| wp_region_list <| st1 hS (mv rfl) rfl fun a w hS => st1 hS (nck rfl) rfl fun a w hS => st1 hS (fad rfl Tryd.runUnderlying49 rfl Tryd.sizeOf44 rfl) rfl fun a w hS => s_call hS rfl Tryd.call25 (bits_Writer_String_deflate_writer_c hG K (T_deflate_writer.mk (T_bits_Writer.mk (T_bits_place.mk at_5744) bytes5747) (T_deflate_code.mk x5158 codes5167) (T_deflate_code.mk x5172 codes5181)) b5184 f5749 A5745 c5746 f5748 A5156 c5157 f5159 A5165 c5166 f5168 A5170 c5171 f5173 A5179 c5180 f5182 h5751 h5750 h5162 h5169 h5176 h5183 (hS.st.part 6 [0, 1, 2, 3, 4, 5] (by kernel_rfl)) (wp_bind hM) (fun x5752 w hM  hst => s_back hS.ev hst.appF rfl fun hS => ?_))
         replace hS : Ss _ _ _ H [f5749, f5748, f5159, f5168, f5173, f5182] F _ _ := hS
         refine st1 hS (asg rfl) rfl fun a w hS => st1 hS (asg rfl) rfl fun a w hS => wpList_nil <| then_n <| wp_ret ?_
         exact s_ret (rs := [2, 3]) hS rfl rfl (hret x5752 (0 : Int) w (wp_ok hM) (hS.st.pick [] (by kernel_rfl)))

theorem deflate_Stored_c {H : Imm} {F : List Frag} {w : World} {R : Ending → World → Prop} {kr : (List UInt8) → Prop} {kp : Value → Prop} (hG : Gl H) (K : Nat) (s5757 : List UInt8)
    (hS : St w H [] F) (hm : (deflate_Stored.m K s5757).wp kr kp)
    (hret : ∀ (x5826 : List UInt8) (w : World), kr x5826 → St w H [] F → R (.returned (str x5826)) w) :
    Calls Tryd.prog 10 ⟨[str s5757]⟩ w R := by
 refine enter Tryd.func10 rfl Tryd.ntmps10 rfl hS fun a w hS => ?_
 have hM := hm; clear hm
 rw [deflate_Stored.m] at hM
 refine wp_seq <| wp_region_list <| st1 hS (asg rfl) rfl fun a w hS => wpList_nil <| then_n <| wp_seq <| wp_region_list <| st1 hS (asg rfl) rfl fun a w hS => ?_
 obtain ⟨f5758, hV5759, hS⟩ := hS.nilV 5 (ci .u8) 1
 refine wpList_nil <| then_n <| wp_block <| s_loopJ (fun k5799 a w => ∃ (s5793 : List UInt8) (A5794 : Option Addr) (c5795 : Nat) (b_5796 : (List Int)) (f5797 : Frag), Ss 41 [] [(0, str s5793), (3, .slice A5794 b_5796.length c5795)] H [f5797] F a w ∧ (Vec 5 (ci .u8) 1 A5794 b_5796 c5795 f5797) ∧ (deflate_Stored.l1 K k5799 s5793 b_5796).wp kr kp) K ?_ ?_ ?_
 ·exact ⟨s5757, none, 0, ([] : List Int), f5758, hS.to [0] (by kernel_rfl) ⟨rfl, rfl, trivial⟩, hV5759, hM⟩
 ·intro a w hI; obtain ⟨_, _, _, _, _, _, _, hM⟩ := hI; exact wp_fail hM
 ·intro k5799 a w hI J5825 hJ5825
  obtain ⟨s5793, A5794, c5795, b_5796, f5797, hS, hV5798, hM⟩ := hI
  rw [deflate_Stored.l1] at hM
  refine wp_block <| wp_seq <| wp_region_list <| st1 hS (mv rfl) rfl fun a w hS => st1 hS (lenS rfl Tryd.runUnderlying9) rfl fun a w hS => st1 hS (minI rfl rfl) rfl fun a w hS => st1x (v := Value.int .i64) (x0 := (if (s5793.length : Int) < (65535 : Int) then (s5793.length : Int) else (65535 : Int))) hS (asg rfl) rfl fun n_5800 a w hz hS => ?_
  have hM := lt_to hz hM; clear hz
  refine wpList_nil <| then_n <| wp_seq <| wp_region_list <| st1 hS (asg rfl) rfl fun a w hS => wpList_nil <| then_n <| seq_joinJ (fun a w => ∃ (last5802 : Int), Ss 41 [] [(0, str s5793), (3, .slice A5794 b_5796.length c5795), (4, .int .i64 n_5800), (5, .int .u8 last5802)] H [f5797] F a w ∧ (deflate_Stored.j2 K (deflate_Stored.l1 K k5799) s5793 b_5796 n_5800 last5802).wp kr kp) (fun J5803 hJ5803 => ?_) ?_
  ·refine wp_seq ?_
   refine wp_region_list <| st1 hS (mv rfl) rfl fun a w hS => st1 hS (mv rfl) rfl fun a w hS => st1 hS (lenS rfl Tryd.runUnderlying9) rfl fun a w hS => st1 hS (bin rfl rfl rfl) rfl fun a w hS => wpList_nil <| then_n <| s_cond hS rfl hM (fun hb5801 hM => ?_) (fun hb5801 hM => ?_)
   ·refine wp_region_list ?_
    refine st1 hS (asg rfl) rfl fun a w hS => wpList_nil <| then_n ?_
    exact hJ5803 _ _ ⟨(1 : Int), hS.to [0] (by kernel_rfl) ⟨rfl, rfl, rfl, rfl, trivial⟩, hM⟩
   ·refine wp_skip ?_
    refine then_n ?_
    exact hJ5803 _ _ ⟨(0 : Int), hS.to [0] (by kernel_rfl) ⟨rfl, rfl, rfl, rfl, trivial⟩, hM⟩
  ·intro a w hI
   obtain ⟨last5802, hS, hM⟩ := hI
   rw [deflate_Stored.j2] at hM
   refine wp_seq <| wp_region_list <| st1 hS (mv rfl) rfl fun a w hS => st1 hS (mv rfl) rfl fun a w hS => st1 hS (mv rfl) rfl fun a w hS => st1 hS (cvi rfl Tryd.runUnderlying3 Tryd.runUnderlying5) rfl fun a w hS => st1 hS (mv rfl) rfl fun a w hS => st1 hS (shr rfl rfl rfl) rfl fun a w hS => st1 hS (cvi rfl Tryd.runUnderlying3 Tryd.runUnderlying5) rfl fun a w hS => st1 hS (mv rfl) rfl fun a w hS => st1 hS (cvi rfl Tryd.runUnderlying3 Tryd.runUnderlying5) rfl fun a w hS => st1 hS (un rfl rfl) rfl fun a w hS => st1 hS (mv rfl) rfl fun a w hS => st1 hS (shr rfl rfl rfl) rfl fun a w hS => st1 hS (cvi rfl Tryd.runUnderlying3 Tryd.runUnderlying5) rfl fun a w hS => st1 hS (un rfl rfl) rfl fun a w hS => bsl (g := (ci .u8)) ([last5802, (wr .u8 n_5800), (wr .u8 (ishr .i64 n_5800 (8 : Int))), (inot .u8 (wr .u8 n_5800)), (inot .u8 (wr .u8 (ishr .i64 n_5800 (8 : Int))))] : List Int) [.int .u8 last5802, .int .u8 (wr .u8 n_5800), .int .u8 (wr .u8 (ishr .i64 n_5800 (8 : Int))), .int .u8 (inot .u8 (wr .u8 n_5800)), .int .u8 (inot .u8 (wr .u8 (ishr .i64 n_5800 (8 : Int))))] hS Tryd.runUnderlying38 Tryd.sizeOf5 X.el5 rfl rfl rfl (by simp [Value.cells]) rfl rfl rfl rfl rfl fun w A5804 c5805 f5806 hV5807 hS => ?_
   obtain ⟨hk5808, hM⟩ := wp_chk hM
   refine apV (ys := ([last5802, (wr .u8 n_5800), (wr .u8 (ishr .i64 n_5800 (8 : Int))), (inot .u8 (wr .u8 n_5800)), (inot .u8 (wr .u8 (ishr .i64 n_5800 (8 : Int))))] : List Int)) 1 hS rfl rfl hV5798 rfl (hV5807.rd (i := 0) rfl) Tryd.runUnderlying38 Tryd.runUnderlying38 X.el5 (fun _ => rfl) rfl one_t5 hk5808 rfl fun zs5813 w A5809 c5810 f5811 hz hV5812 hS => ?_
   have hM := lt_to hz hM; clear hz
   refine st1 hS (asg rfl) rfl fun a w hS => wpList_nil <| then_n <| wp_seq <| wp_region_list <| st1 hS (mv rfl) rfl fun a w hS => st1 hS (mv rfl) rfl fun a w hS => st1 hS (mv rfl) rfl fun a w hS => ?_
   obtain ⟨hk5814, hM⟩ := wp_chk hM
   refine st1 hS (slS rfl Tryd.runUnderlying9 lo0 (hiS rfl) hk5814) rfl fun a w hS => ?_
   obtain ⟨hk5815, hM⟩ := wp_chk hM
   refine apS 1 hS rfl rfl hV5812 rfl Tryd.runUnderlying38 Tryd.runUnderlying9 X.el5 rfl hk5815 rfl fun zs5820 w A5816 c5817 f5818 hz hV5819 hS => ?_
   have hM := lt_to hz hM; clear hz
   refine st1 hS (asg rfl) rfl fun a w hS => wpList_nil <| then_n <| wp_seq <| wp_region_list <| st1 hS (mv rfl) rfl fun a w hS => st1 hS (mv rfl) rfl fun a w hS => ?_
   obtain ⟨hk5821, hM⟩ := wp_chk hM
   refine st1 hS (slS rfl Tryd.runUnderlying9 (loS rfl) hi0 hk5821) rfl fun a w hS => st1x (v := str) (x0 := (sub s5793 n_5800 (s5793.length : Int))) hS (asg rfl) rfl fun s5822 a w hz hS => ?_
   have hM := lt_to hz hM; clear hz
   refine wpList_nil <| then_n <| wp_seq <| wp_region_list <| st1 hS (mv rfl) rfl fun a w hS => st1 hS (bin rfl rfl rfl) rfl fun a w hS => wpList_nil <| then_n <| s_cond hS rfl hM (fun hb5823 hM => ?_) (fun hb5823 hM => ?_)
   ·refine wp_seq ?_
    refine wp_region_list <| st1 hS (mv rfl) rfl fun a w hS => st1 hS (cbs rfl Tryd.runUnderlying38 Tryd.runUnderlying5 Tryd.runUnderlying9 (hV5819.rd (i := 1) rfl)) rfl fun a w hS => st1x (v := str) (x0 := (zs5820.map tob)) hS (asg rfl) rfl fun v5824 a w hz hS => ?_
    have hM := lt_to hz hM; clear hz
    refine wpList_nil <| then_n <| wp_ret <| blk_ret (then_ret (blk_ret ?_))
    exact s_ret (rs := [2]) hS rfl rfl (hret v5824 w (wp_ok hM) (hS.st.pick [] (by kernel_rfl)))
   ·refine wp_skip ?_
    refine blk_n (then_n ?_)
    exact hJ5825 _ _ ⟨s5822, A5816, c5817, zs5820, f5818, hS.to [1] (by kernel_rfl) ⟨rfl, rfl, trivial⟩, hV5819, hM⟩
end Go.TrydS
