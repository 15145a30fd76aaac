/- Printed by a program of mine: each Go function answers what its model answers; conditions: what each theorem asks of memory. -/
import Derived.Test.YtkphnjbmheoifaaMjellj
import Derived.Test.YtkphnjbmheoifaaChecked
set_option linter.unusedVariables false
set_option linter.unusedSimpArgs false
set_option maxRecDepth 100000
namespace Go.TryS
open Go Go.Sl Go.Mo Go.Proofs
attribute [local irreducible] Res.wp
theorem mixed : Try.prog.follows .mixedOrders = true := by kernel_rfl
def _root_.Go.Mo.T_bits_place.cells (x : T_bits_place) : List Value := [.int .i64 x.at_]
def _root_.Go.Mo.T_bits_Reader.cells (x : T_bits_Reader) : List Value := [.int .i64 x.place_.at_, str x.text_]
def _root_.Go.Mo.T_mortiseref05_Reader.cells (x : T_mortiseref05_Reader) : List Value := [str x.S_, .int .i64 x.At_]
theorem X.el3 : El Try.prog 3 1 8 := ⟨_, _, Try.typeInfo3, rfl, rfl, rfl, rfl⟩
theorem X.el5 : El Try.prog 5 1 1 := ⟨_, _, Try.typeInfo5, rfl, rfl, rfl, rfl⟩
theorem X.el22 : El Try.prog 22 1 24 := ⟨_, _, Try.typeInfo22, rfl, rfl, rfl, rfl⟩
theorem X.el68 : El Try.prog 68 1 24 := ⟨_, _, Try.typeInfo68, rfl, rfl, rfl, rfl⟩
theorem X.el70 : El Try.prog 70 2 32 := ⟨_, _, Try.typeInfo70, rfl, rfl, rfl, rfl⟩
theorem one_t3 : ∀ x, ∀ u ∈ (ci .i64) x, u.oneCell' = true := fun x u hu => by cases hu with | head => rfl | tail _ h => cases h
theorem one_t5 : ∀ x, ∀ u ∈ (ci .u8) x, u.oneCell' = true := fun x u hu => by cases hu with | head => rfl | tail _ h => cases h
structure Gl (H : Imm) : Prop where
  any : True

theorem huff_count_c {H : Imm} {F : List Frag} {w : World} {R : Ending → World → Prop} {kr : ((List Int) × Bool) → Prop} {kp : Value → Prop} (hG : Gl H) (K : Nat) (lengths26 : List Int) (A27 : Option Addr) (c28 : Nat) (hr29 : Rdl H [] F (ci .i64) A27 lengths26) (hc30 : lengths26.length ≤ c28)
    (hS : St w H [] F) (hm : (huff_count.m K lengths26).wp kr kp)
    (hret : ∀ (x84 : (List Int)) (x86 : Bool) (w : World), kr (x84, x86) → (x84.length = 16) → St w H [] F → R (.returned (.tuple ⟨[.agg ⟨x84.flatMap (ci .i64)⟩, .bool x86]⟩)) w) :
    Calls Try.prog 26 ⟨[.slice A27 lengths26.length c28]⟩ w R := by
 refine enter Try.func26 rfl Try.ntmps26 rfl hS fun a w hS => ?_
 have hM := hm; clear hm
 rw [huff_count.m] at hM
 refine wp_seq <| wp_region_list <| alc ((List.replicate 16 (0 : Int)).flatMap (ci .i64)) hS Try.zeroValue56 rfl rfl fun w b31 f32 hB33 hS => st1 hS (asg rfl) rfl fun a w hS => wpList_nil <| then_n <| wp_seq <| wp_seq <| wp_region_list <| st1 hS (mv rfl) rfl fun a w hS => st1 hS (lenV rfl Try.runUnderlying22) rfl fun a w hS => st1 hS (bin rfl rfl rfl) rfl fun a w hS => wpList_nil <| then_n <| s_cond hS rfl hM (fun hb34 hM => ?_) (fun hb34 hM => ?_)
 ·refine wp_seq ?_
  refine wp_region_list <| st1 hS (ldAr (xs := (List.replicate 16 (0 : Int))) (g := (ci .i64)) (pre := []) (post := []) 0 rfl hB33 rfl (by simp) rfl (flat_ln (g := (ci .i64)) (sz := 1) (fun _ => rfl) (List.length_replicate ..)) Try.isAgg56 Try.sizeOf56) rfl fun a w hS => stAr (xs := (List.replicate 16 (0 : Int))) (ys := (List.replicate 16 (0 : Int))) (g := (ci .i64)) (pre := []) (post := []) 0 hS rfl rfl hB33 rfl (by simp) rfl (flat_ln (g := (ci .i64)) (sz := 1) (fun _ => rfl) (List.length_replicate ..)) (flat_ln (g := (ci .i64)) (sz := 1) (fun _ => rfl) (List.length_replicate ..)) (one_t3) Try.sizeOf56 fun w f35 hB36 hS => ?_
  replace hB36 : Blk f35 b31 ((List.replicate 16 (0 : Int)).flatMap (ci .i64)) 56 := by simpa using hB36
  refine st1 hS (asg rfl) rfl fun a w hS => wpList_nil <| then_n <| wp_ret <| then_ret ?_
  exact s_retC (vs := [.agg ⟨(List.replicate 16 (0 : Int)).flatMap (ci .i64)⟩, .bool false]) hS rfl (by exact ⟨rvR 0 rfl hB36 rfl (flat_ln (g := (ci .i64)) (sz := 1) (fun _ => rfl) (List.length_replicate ..)) Try.isAgg56 Try.sizeOf56, rvT rfl, trivial⟩) (hret (List.replicate 16 (0 : Int)) false w (wp_ok hM) (List.length_replicate ..) (hS.st.pick [] (by kernel_rfl)))
 ·refine wp_skip ?_
  refine then_n <| seq_joinJ (fun a w => ∃ (c_73 : (List Int)) (f75 : Frag), Ss 31 [] [(2, ptr b31 0)] H [f75] F a w ∧ (c_73.length = 16) ∧ (Blk f75 b31 (c_73.flatMap (ci .i64)) 56) ∧ (huff_count.j2 K c_73).wp kr kp) (fun J77 hJ77 => ?_) ?_
  ·refine wp_seq ?_
   refine wp_region_list <| st1 hS (mv rfl) rfl fun a w hS => st1 hS (lenV rfl Try.runUnderlying22) rfl fun a w hS => st1 hS (mv rfl) rfl fun a w hS => wpList_nil <| then_n <| wp_block <| s_loopJ (fun k60 a w => ∃ (c_55 : (List Int)) (f57 : Frag) (v59 : Int), Ss 31 [] [(2, ptr b31 0), (10, .slice A27 lengths26.length c28), (11, .int .i64 (lengths26.length : Int)), (12, .int .i64 v59)] H [f57] F a w ∧ (c_55.length = 16) ∧ (Blk f57 b31 (c_55.flatMap (ci .i64)) 56) ∧ (huff_count.l1 K lengths26 k60 c_55 v59).wp kr kp) K ?_ ?_ ?_
   ·exact ⟨(List.replicate 16 (0 : Int)), f32, (0 : Int), hS.to [0] (by kernel_rfl) ⟨rfl, rfl, rfl, rfl, trivial⟩, (List.length_replicate ..), hB33, hM⟩
   ·intro a w hI; obtain ⟨_, _, _, _, _, _, hM⟩ := hI; exact wp_fail hM
   ·intro k60 a w hI J72 hJ72
    obtain ⟨c_55, f57, v59, hS, hl56, hB58, hM⟩ := hI
    rw [huff_count.l1] at hM
    refine wp_seq <| wp_region_list <| st1 hS (bin rfl rfl rfl) rfl fun a w hS => wpList_nil <| then_n <| wp_seq <| s_cond hS rfl hM (fun hb61 hM => ?_) (fun hb61 hM => ?_)
    ·refine wp_skip ?_
     refine then_n <| wp_seq <| wp_block <| wp_seq <| wp_region_list ?_
     obtain ⟨hk62, hM⟩ := wp_chk hM
     refine st1 hS (ixV rfl rfl Try.runUnderlying22 Try.sizeOf3 hr29.wk (fun _ => rfl) rfl hk62) rfl fun a w hS => st1 hS (ldV0 rfl hr29.wk (fun _ => rfl) hk62 rfl Try.isAgg3) rfl fun a w hS => st1x (v := Value.int .i64) (x0 := (rd lengths26 v59)) hS (asg rfl) rfl fun n_63 a w hz hS => ?_
     have hM := lt_to hz hM; clear hz
     refine wpList_nil <| then_n <| wp_seq <| wp_seq <| wp_region_list <| st1 hS (mv rfl) rfl fun a w hS => st1 hS (bin rfl rfl rfl) rfl fun a w hS => st1 hS (mv rfl) rfl fun a w hS => g_op 2 false 18 (b := (decide (n_63 < (0 : Int)))) (r := (decide (n_63 > (15 : Int)))) hS rfl rfl rfl rfl rfl rfl rfl (fun hb a w hS K hK => ?_) rfl fun a w hS => ?_
     ·refine st1g hS rfl rfl rfl hb (mv rfl) rfl fun a w hS => ?_
      refine st1g hS rfl rfl rfl hb (bin rfl rfl rfl) rfl fun a w hS => ?_
      exact wpList_nil (hK _ _ (hS.up 2 rfl rfl))
     refine wpList_nil <| then_n <| s_cond hS rfl hM (fun hb64 hM => ?_) (fun hb64 hM => ?_)
     ·refine wp_seq ?_
      refine wp_region_list <| st1 hS (ldAr (xs := c_55) (g := (ci .i64)) (pre := []) (post := []) 0 rfl hB58 rfl (by simp) rfl (flat_ln (g := (ci .i64)) (sz := 1) (fun _ => rfl) hl56) Try.isAgg56 Try.sizeOf56) rfl fun a w hS => stAr (xs := c_55) (ys := c_55) (g := (ci .i64)) (pre := []) (post := []) 0 hS rfl rfl hB58 rfl (by simp) rfl (flat_ln (g := (ci .i64)) (sz := 1) (fun _ => rfl) hl56) (flat_ln (g := (ci .i64)) (sz := 1) (fun _ => rfl) hl56) (one_t3) Try.sizeOf56 fun w f65 hB66 hS => ?_
      replace hB66 : Blk f65 b31 (c_55.flatMap (ci .i64)) 56 := by simpa using hB66
      refine st1 hS (asg rfl) rfl fun a w hS => wpList_nil <| then_n <| wp_ret <| then_ret (blk_ret (then_ret (then_ret (blk_ret (then_ret ?_)))))
      exact s_retC (vs := [.agg ⟨c_55.flatMap (ci .i64)⟩, .bool false]) hS rfl (by exact ⟨rvR 0 rfl hB66 rfl (flat_ln (g := (ci .i64)) (sz := 1) (fun _ => rfl) hl56) Try.isAgg56 Try.sizeOf56, rvT rfl, trivial⟩) (hret c_55 false w (wp_ok hM) hl56 (hS.st.pick [] (by kernel_rfl)))
     ·refine wp_skip ?_
      refine then_n <| wp_region_list <| st1 hS (mv rfl) rfl fun a w hS => ?_
      obtain ⟨hk67, hM⟩ := wp_chk hM
      refine st1 hS (ixB rfl rfl Try.runUnderlying56 Try.sizeOf3 hk67) rfl fun a w hS => st1 hS (ldR (xs := c_55) (g := (ci .i64)) (pre := []) (post := []) 0 rfl hB58 rfl (by simp) rfl (fun _ => rfl) (inb_len hl56 hk67) rfl Try.isAgg3) rfl fun a w hS => st1 hS (bin rfl rfl rfl) rfl fun a w hS => st1 hS (ixB rfl rfl Try.runUnderlying56 Try.sizeOf3 hk67) rfl fun a w hS => stR (xs := c_55) (g := (ci .i64)) (pre := []) (post := []) 0 ((w64 ((rd c_55 n_63) + (1 : Int)))) hS rfl rfl hB58 rfl (by simp) rfl (fun _ => rfl) (inb_len hl56 hk67) rfl Try.sizeOf3 (one_t3 _) fun zs70 w f68 hz hB69 hS => ?_
      have hl71 : zs70.length = 16 := by rw [hz, List.length_set]; exact hl56
      have hM := lt_to hz hM; clear hz
      replace hB69 : Blk f68 b31 (zs70.flatMap (ci .i64)) 56 := by simpa using hB69
      refine wpList_nil <| blk_n (then_n ?_)
      refine wp_region_list <| st1 hS (bin rfl rfl rfl) rfl fun a w hS => st1 hS (mv rfl) rfl fun a w hS => wpList_nil <| then_n ?_
      exact hJ72 _ _ ⟨zs70, f68, (w64 (v59 + (1 : Int))), hS.to [0] (by kernel_rfl) ⟨rfl, rfl, rfl, rfl, trivial⟩, hl71, hB69, hM⟩
    ·refine wp_exit ?_
     refine then_ex (then_ex (blk_same (then_n ?_)))
     exact hJ77 _ _ ⟨c_55, f57, hS.to [0] (by kernel_rfl) ⟨rfl, trivial⟩, hl56, hB58, hM⟩
  ·intro a w hI
   obtain ⟨c_73, f75, hS, hl74, hB76, hM⟩ := hI
   rw [huff_count.j2] at hM
   refine wp_seq <| wp_region_list <| st1 hS (ixB rfl rfl Try.runUnderlying56 Try.sizeOf3 rfl) rfl fun a w hS => stR (xs := c_73) (g := (ci .i64)) (pre := []) (post := []) 0 ((0 : Int)) hS rfl rfl hB76 rfl (by simp) rfl (fun _ => rfl) (inb_len hl74 rfl) rfl Try.sizeOf3 (one_t3 _) fun zs80 w f78 hz hB79 hS => ?_
   have hl81 : zs80.length = 16 := by rw [hz, List.length_set]; exact hl74
   have hM := lt_to hz hM; clear hz
   replace hB79 : Blk f78 b31 (zs80.flatMap (ci .i64)) 56 := by simpa using hB79
   refine wpList_nil <| then_n <| wp_seq <| wp_region_list <| st1 hS (ldAr (xs := zs80) (g := (ci .i64)) (pre := []) (post := []) 0 rfl hB79 rfl (by simp) rfl (flat_ln (g := (ci .i64)) (sz := 1) (fun _ => rfl) hl81) Try.isAgg56 Try.sizeOf56) rfl fun a w hS => stAr (xs := zs80) (ys := zs80) (g := (ci .i64)) (pre := []) (post := []) 0 hS rfl rfl hB79 rfl (by simp) rfl (flat_ln (g := (ci .i64)) (sz := 1) (fun _ => rfl) hl81) (flat_ln (g := (ci .i64)) (sz := 1) (fun _ => rfl) hl81) (one_t3) Try.sizeOf56 fun w f82 hB83 hS => ?_
   replace hB83 : Blk f82 b31 (zs80.flatMap (ci .i64)) 56 := by simpa using hB83
   refine st1 hS (asg rfl) rfl fun a w hS => wpList_nil <| then_n <| wp_ret ?_
   exact s_retC (vs := [.agg ⟨zs80.flatMap (ci .i64)⟩, .bool true]) hS rfl (by exact ⟨rvR 0 rfl hB83 rfl (flat_ln (g := (ci .i64)) (sz := 1) (fun _ => rfl) hl81) Try.isAgg56 Try.sizeOf56, rvT rfl, trivial⟩) (hret zs80 true w (wp_ok hM) hl81 (hS.st.pick [] (by kernel_rfl)))

theorem huff_Check_c {H : Imm} {F : List Frag} {w : World} {R : Ending → World → Prop} {kr : Int → Prop} {kp : Value → Prop} (hG : Gl H) (K : Nat) (lengths21 : List Int) (A22 : Option Addr) (c23 : Nat) (hr24 : Rdl H [] F (ci .i64) A22 lengths21) (hc25 : lengths21.length ≤ c23)
    (hS : St w H [] F) (hm : (huff_Check.m K lengths21).wp kr kp)
    (hret : ∀ (x108 : Int) (w : World), kr x108 → St w H [] F → R (.returned (.int .i64 x108)) w) :
    Calls Try.prog 12 ⟨[.slice A22 lengths21.length c23]⟩ w R := by
 refine enter Try.func12 rfl Try.ntmps12 rfl hS fun a w hS => ?_
 have hM := hm; clear hm
 rw [huff_Check.m] at hM
 refine wp_seq <| wp_region_list <| st1 hS (asg rfl) rfl fun a w hS => wpList_nil <| then_n <| wp_seq <| wp_region_list <| st1 hS (mv rfl) rfl fun a w hS => s_call hS rfl Try.call26 (huff_count_c hG K lengths21 A22 c23 (hr24.app _) hc25 (hS.st.part 0 [] (by kernel_rfl)) (wp_bind hM) (fun x87 x88 w hM h89 hst => s_back hS.ev hst.appF rfl fun hS => ?_))
 replace hS : Ss _ _ _ H [] F _ _ := hS
 refine st1 hS (mv rfl) rfl fun a w hS => st1 hS (ex rfl rfl) rfl fun a w hS => st1 hS (ex rfl rfl) rfl fun a w hS => alc ((List.replicate 16 (0 : Int)).flatMap (ci .i64)) hS Try.zeroValue56 rfl rfl fun w b90 f91 hB92 hS => stAr (xs := (List.replicate 16 (0 : Int))) (ys := x87) (g := (ci .i64)) (pre := []) (post := []) 0 hS rfl rfl hB92 rfl (by simp) rfl (flat_ln (g := (ci .i64)) (sz := 1) (fun _ => rfl) (List.length_replicate ..)) (flat_ln (g := (ci .i64)) (sz := 1) (fun _ => rfl) h89) (one_t3) Try.sizeOf56 fun w f93 hB94 hS => ?_
 replace hB94 : Blk f93 b90 (x87.flatMap (ci .i64)) 56 := by simpa using hB94
 refine st1 hS (asg rfl) rfl fun a w hS => wpList_nil <| then_n <| wp_seq <| wp_seq <| wp_region_list <| st1 hS (mv rfl) rfl fun a w hS => st1 hS (un rfl rfl) rfl fun a w hS => wpList_nil <| then_n <| s_cond hS rfl hM (fun hb95 hM => ?_) (fun hb95 hM => ?_)
 ·refine wp_seq ?_
  refine wp_region_list <| st1 hS (asg rfl) rfl fun a w hS => wpList_nil <| then_n <| wp_ret <| then_ret ?_
  exact s_ret (rs := [2]) hS rfl rfl (hret (1 : Int) w (wp_ok hM) (hS.st.pick [] (by kernel_rfl)))
 ·refine wp_skip ?_
  refine then_n <| wp_seq <| wp_region_list <| st1 hS (asg rfl) rfl fun a w hS => wpList_nil <| then_n <| seq_joinJ (fun a w => ∃ (sum105 : Int), Ss 38 [] [(3, ptr b90 0), (5, .int .i64 sum105)] H [f93] F a w ∧ (huff_Check.j2 K x87 sum105).wp kr kp) (fun J106 hJ106 => ?_) ?_
  ·refine wp_seq ?_
   refine wp_region_list <| st1 hS (ldAr (xs := x87) (g := (ci .i64)) (pre := []) (post := []) 0 rfl hB94 rfl (by simp) rfl (flat_ln (g := (ci .i64)) (sz := 1) (fun _ => rfl) h89) Try.isAgg56 Try.sizeOf56) rfl fun a w hS => st1 hS (mv rfl) rfl fun a w hS => wpList_nil <| then_n <| wp_block <| s_loopJ (fun k98 a w => ∃ (sum96 : Int) (v97 : Int), Ss 38 [] [(3, ptr b90 0), (5, .int .i64 sum96), (15, .agg ⟨x87.flatMap (ci .i64)⟩), (16, .int .i64 v97)] H [f93] F a w ∧ (huff_Check.l1 K x87 k98 sum96 v97).wp kr kp) K ?_ ?_ ?_
   ·exact ⟨(0 : Int), (0 : Int), hS.to [0] (by kernel_rfl) ⟨rfl, rfl, rfl, rfl, trivial⟩, hM⟩
   ·intro a w hI; obtain ⟨_, _, _, hM⟩ := hI; exact wp_fail hM
   ·intro k98 a w hI J104 hJ104
    obtain ⟨sum96, v97, hS, hM⟩ := hI
    rw [huff_Check.l1] at hM
    refine wp_seq <| wp_region_list <| st1 hS (bin rfl rfl rfl) rfl fun a w hS => wpList_nil <| then_n <| wp_seq <| s_cond hS rfl hM (fun hb99 hM => ?_) (fun hb99 hM => ?_)
    ·refine wp_skip ?_
     refine then_n <| wp_seq <| wp_block <| wp_seq <| wp_region_list <| st1 hS (mv rfl) rfl fun a w hS => ?_
     obtain ⟨hk100, hM⟩ := wp_chk hM
     refine st1 hS (ixA rfl rfl Try.runUnderlying56 Try.isAgg3 Try.sizeOf3 (fun _ => rfl) h89 hk100 rfl) rfl fun a w hS => st1 hS (asg rfl) rfl fun a w hS => st1x (v := Value.int .i64) (x0 := (rd x87 v97)) hS (asg rfl) rfl fun k_101 a w hz hS => ?_
     have hM := lt_to hz hM; clear hz
     refine wpList_nil <| then_n <| wp_region_list <| st1 hS (mv rfl) rfl fun a w hS => st1 hS (mv rfl) rfl fun a w hS => st1 hS (mv rfl) rfl fun a w hS => ?_
     obtain ⟨hk102, hM⟩ := wp_chk hM
     refine st1 hS (shr rfl rfl hk102) rfl fun a w hS => st1 hS (bin rfl rfl rfl) rfl fun a w hS => st1 hS (bin rfl rfl rfl) rfl fun a w hS => st1x (v := Value.int .i64) (x0 := (w64 (sum96 + (w64 (k_101 * (ishr .i64 (32768 : Int) v97)))))) hS (asg rfl) rfl fun sum103 a w hz hS => ?_
     have hM := lt_to hz hM; clear hz
     refine wpList_nil <| blk_n (then_n ?_)
     refine wp_region_list <| st1 hS (bin rfl rfl rfl) rfl fun a w hS => st1 hS (mv rfl) rfl fun a w hS => wpList_nil <| then_n ?_
     exact hJ104 _ _ ⟨sum103, (w64 (v97 + (1 : Int))), hS.to [0] (by kernel_rfl) ⟨rfl, rfl, rfl, rfl, trivial⟩, hM⟩
    ·refine wp_exit ?_
     refine then_ex (then_ex (blk_same (then_n ?_)))
     exact hJ106 _ _ ⟨sum96, hS.to [0] (by kernel_rfl) ⟨rfl, rfl, trivial⟩, hM⟩
  ·intro a w hI
   obtain ⟨sum105, hS, hM⟩ := hI
   rw [huff_Check.j2] at hM
   refine wp_seq <| wp_seq <| wp_region_list <| st1 hS (mv rfl) rfl fun a w hS => st1 hS (bin rfl rfl rfl) rfl fun a w hS => st1 hS (mv rfl) rfl fun a w hS => g_op 2 false 29 (b := (sum105 == (0 : Int))) (r := (sum105 == (32768 : Int))) hS rfl rfl rfl rfl rfl rfl rfl (fun hb a w hS K hK => ?_) rfl fun a w hS => ?_
   ·refine st1g hS rfl rfl rfl hb (mv rfl) rfl fun a w hS => ?_
    refine st1g hS rfl rfl rfl hb (bin rfl rfl rfl) rfl fun a w hS => ?_
    exact wpList_nil (hK _ _ (hS.up 2 rfl rfl))
   refine st1 hS (mv rfl) rfl fun a w hS => g_op 3 false 33 (b := ((sum105 == (0 : Int)) || (sum105 == (32768 : Int)))) (r := (x87 == ([0, (1 : Int), 0, 0, 0, 0, 0, 0, 0, 0, 0, 0, 0, 0, 0, 0] : List Int))) hS rfl rfl rfl rfl rfl rfl rfl (fun hb a w hS K hK => ?_) rfl fun a w hS => ?_
   ·refine st1g hS rfl rfl rfl hb (ldAr (xs := x87) (g := (ci .i64)) (pre := []) (post := []) 0 rfl hB94 rfl (by simp) rfl (flat_ln (g := (ci .i64)) (sz := 1) (fun _ => rfl) h89) Try.isAgg56 Try.sizeOf56) rfl fun a w hS => ?_
    refine st1g hS rfl rfl rfl hb (bldAr (([0, (1 : Int), 0, 0, 0, 0, 0, 0, 0, 0, 0, 0, 0, 0, 0, 0] : List Int).flatMap (ci .i64)) Try.zeroValue56 Try.runUnderlying56 Try.sizeOf3 rfl (by kernel_rfl)) rfl fun a w hS => st1g hS rfl rfl rfl hb (eqArr rfl rfl Try.runUnderlying56 Try.runUnderlying3 Try.sizeOf3 Try.isAgg3 h89 rfl Try.eqGuardType56 rfl) rfl fun a w hS => ?_
    exact wpList_nil (hK _ _ (hS.up 3 rfl rfl))
   refine wpList_nil <| then_n <| s_cond hS rfl hM (fun hb107 hM => ?_) (fun hb107 hM => ?_)
   ·refine wp_seq ?_
    refine wp_region_list <| st1 hS (asg rfl) rfl fun a w hS => wpList_nil <| then_n <| wp_ret <| then_ret ?_
    exact s_ret (rs := [2]) hS rfl rfl (hret (0 : Int) w (wp_ok hM) (hS.st.pick [] (by kernel_rfl)))
   ·refine wp_skip ?_
    refine then_n <| wp_seq <| wp_region_list <| st1 hS (asg rfl) rfl fun a w hS => wpList_nil <| then_n <| wp_ret ?_
    exact s_ret (rs := [2]) hS rfl rfl (hret (3 : Int) w (wp_ok hM) (hS.st.pick [] (by kernel_rfl)))

theorem huff_counted_firsts_c {H : Imm} {F : List Frag} {w : World} {R : Ending → World → Prop} {kr : (List Int) → Prop} {kp : Value → Prop} (hG : Gl H) (K : Nat) (c_121 : List Int) (hl122 : c_121.length = 16)
    (hS : St w H [] F) (hm : (huff_counted_firsts.m K c_121).wp kr kp)
    (hret : ∀ (x171 : (List Int)) (w : World), kr x171 → (x171.length = 16) → St w H [] F → R (.returned (.agg ⟨x171.flatMap (ci .i64)⟩)) w) :
    Calls Try.prog 27 ⟨[.agg ⟨c_121.flatMap (ci .i64)⟩]⟩ w R := by
 refine enter Try.func27 rfl Try.ntmps27 rfl hS fun a w hS => ?_
 have hM := hm; clear hm
 rw [huff_counted_firsts.m] at hM
 refine wp_seq <| wp_region_list <| bx (c_121.flatMap (ci .i64)) hS rfl rfl rfl fun w b123 f124 hB125 hS => alc ((List.replicate 16 (0 : Int)).flatMap (ci .i64)) hS Try.zeroValue56 rfl rfl fun w b126 f127 hB128 hS => wpList_nil <| then_n <| wp_seq <| wp_region_list <| st1 hS (asg rfl) rfl fun a w hS => wpList_nil <| then_n <| seq_joinJ (fun a w => ∃ (first164 : (List Int)) (f166 : Frag), Ss 20 [] [(2, ptr b126 0)] H [f166] F a w ∧ (first164.length = 16) ∧ (Blk f166 b126 (first164.flatMap (ci .i64)) 56) ∧ (huff_counted_firsts.j2 K first164).wp kr kp) (fun J168 hJ168 => ?_) ?_
 ·refine wp_seq ?_
  refine wp_region_list <| st1 hS (asg rfl) rfl fun a w hS => wpList_nil <| then_n <| wp_block <| s_loopJ (fun k153 a w => ∃ (first147 : (List Int)) (f149 : Frag) (code151 : Int) (n_152 : Int), Ss 20 [] [(1, ptr b123 0), (2, ptr b126 0), (3, .int .i64 code151), (4, .int .i64 n_152)] H [f124, f149] F a w ∧ (first147.length = 16) ∧ (Blk f149 b126 (first147.flatMap (ci .i64)) 56) ∧ (huff_counted_firsts.l1 K c_121 k153 first147 code151 n_152).wp kr kp) K ?_ ?_ ?_
  ·exact ⟨(List.replicate 16 (0 : Int)), f127, (0 : Int), (1 : Int), hS.to [1, 0] (by kernel_rfl) ⟨rfl, rfl, rfl, rfl, trivial⟩, (List.length_replicate ..), hB128, hM⟩
  ·intro a w hI; obtain ⟨_, _, _, _, _, _, _, hM⟩ := hI; exact wp_fail hM
  ·intro k153 a w hI J163 hJ163
   obtain ⟨first147, f149, code151, n_152, hS, hl148, hB150, hM⟩ := hI
   rw [huff_counted_firsts.l1] at hM
   refine wp_seq <| wp_seq <| wp_region_list <| st1 hS (mv rfl) rfl fun a w hS => st1 hS (bin rfl rfl rfl) rfl fun a w hS => wpList_nil <| then_n <| s_cond hS rfl hM (fun hb154 hM => ?_) (fun hb154 hM => ?_)
   ·refine wp_skip ?_
    refine then_n <| wp_seq <| wp_block <| wp_seq <| wp_region_list <| st1 hS (mv rfl) rfl fun a w hS => st1 hS (mv rfl) rfl fun a w hS => st1 hS (bin rfl rfl rfl) rfl fun a w hS => ?_
    obtain ⟨hk155, hM⟩ := wp_chk hM
    refine st1 hS (ixB rfl rfl Try.runUnderlying56 Try.sizeOf3 hk155) rfl fun a w hS => st1 hS (ldR (xs := c_121) (g := (ci .i64)) (pre := []) (post := []) 0 rfl hB125 rfl (by simp) rfl (fun _ => rfl) (inb_len hl122 hk155) rfl Try.isAgg3) rfl fun a w hS => st1 hS (bin rfl rfl rfl) rfl fun a w hS => st1 hS (shl rfl rfl rfl) rfl fun a w hS => st1x (v := Value.int .i64) (x0 := (ishl .i64 (w64 (code151 + (rd c_121 (w64 (n_152 - (1 : Int)))))) (1 : Int))) hS (asg rfl) rfl fun code156 a w hz hS => ?_
    have hM := lt_to hz hM; clear hz
    refine wpList_nil <| then_n <| wp_region_list <| st1 hS (mv rfl) rfl fun a w hS => st1 hS (mv rfl) rfl fun a w hS => ?_
    obtain ⟨hk157, hM⟩ := wp_chk hM
    refine st1 hS (ixB rfl rfl Try.runUnderlying56 Try.sizeOf3 hk157) rfl fun a w hS => stR (xs := first147) (g := (ci .i64)) (pre := []) (post := []) 1 (code156) hS rfl rfl hB150 rfl (by simp) rfl (fun _ => rfl) (inb_len hl148 hk157) rfl Try.sizeOf3 (one_t3 _) fun zs160 w f158 hz hB159 hS => ?_
    have hl161 : zs160.length = 16 := by rw [hz, List.length_set]; exact hl148
    have hM := lt_to hz hM; clear hz
    replace hB159 : Blk f158 b126 (zs160.flatMap (ci .i64)) 56 := by simpa using hB159
    refine wpList_nil <| blk_n (then_n ?_)
    refine wp_region_list <| st1 hS (mv rfl) rfl fun a w hS => st1 hS (bin rfl rfl rfl) rfl fun a w hS => st1x (v := Value.int .i64) (x0 := (w64 (n_152 + (1 : Int)))) hS (asg rfl) rfl fun n_162 a w hz hS => ?_
    have hM := lt_to hz hM; clear hz
    refine wpList_nil <| then_n ?_
    exact hJ163 _ _ ⟨zs160, f158, code156, n_162, hS.to [0, 1] (by kernel_rfl) ⟨rfl, rfl, rfl, rfl, trivial⟩, hl161, hB159, hM⟩
   ·refine wp_exit ?_
    refine then_ex (then_ex (blk_same (then_n ?_)))
    exact hJ168 _ _ ⟨first147, f149, hS.to [1] (by kernel_rfl) ⟨rfl, trivial⟩, hl148, hB150, hM⟩
 ·intro a w hI
  obtain ⟨first164, f166, hS, hl165, hB167, hM⟩ := hI
  rw [huff_counted_firsts.j2] at hM
  refine wp_seq <| wp_region_list <| st1 hS (ldAr (xs := first164) (g := (ci .i64)) (pre := []) (post := []) 0 rfl hB167 rfl (by simp) rfl (flat_ln (g := (ci .i64)) (sz := 1) (fun _ => rfl) hl165) Try.isAgg56 Try.sizeOf56) rfl fun a w hS => stAr (xs := first164) (ys := first164) (g := (ci .i64)) (pre := []) (post := []) 0 hS rfl rfl hB167 rfl (by simp) rfl (flat_ln (g := (ci .i64)) (sz := 1) (fun _ => rfl) hl165) (flat_ln (g := (ci .i64)) (sz := 1) (fun _ => rfl) hl165) (one_t3) Try.sizeOf56 fun w f169 hB170 hS => ?_
  replace hB170 : Blk f169 b126 (first164.flatMap (ci .i64)) 56 := by simpa using hB170
  refine wpList_nil <| then_n <| wp_ret ?_
  exact s_retC (vs := [.agg ⟨first164.flatMap (ci .i64)⟩]) hS rfl (by exact ⟨rvR 0 rfl hB170 rfl (flat_ln (g := (ci .i64)) (sz := 1) (fun _ => rfl) hl165) Try.isAgg56 Try.sizeOf56, trivial⟩) (hret first164 w (wp_ok hM) hl165 (hS.st.pick [] (by kernel_rfl)))

theorem huff_Codes_c {H : Imm} {F : List Frag} {w : World} {R : Ending → World → Prop} {kr : ((List Int) × Int) → Prop} {kp : Value → Prop} (hG : Gl H) (K : Nat) (lengths14 : List Int) (A15 : Option Addr) (c16 : Nat) (hr17 : Rdl H [] F (ci .i64) A15 lengths14) (hc18 : lengths14.length ≤ c16)
    (hS : St w H [] F) (hm : (huff_Codes.m K lengths14).wp kr kp)
    (hret : ∀ (A234 : Option Addr) (c235 : Nat) (x236 : (List Int)) (f237 : Frag) (x239 : Int) (w : World), kr (x236, x239) → (Vec 3 (ci .i64) 1 A234 x236 c235 f237) → St w H [f237] F → R (.returned (.tuple ⟨[.slice A234 x236.length c235, .int .i64 x239]⟩)) w) :
    Calls Try.prog 9 ⟨[.slice A15 lengths14.length c16]⟩ w R := by
 refine enter Try.func9 rfl Try.ntmps9 rfl hS fun a w hS => ?_
 have hM := hm; clear hm
 rw [huff_Codes.m] at hM
 refine wp_seq <| wp_region_list <| st1 hS (asg rfl) rfl fun a w hS => ?_
 obtain ⟨f19, hV20, hS⟩ := hS.nilV 3 (ci .i64) 1
 refine st1 hS (asg rfl) rfl fun a w hS => wpList_nil <| then_n <| wp_seq <| wp_seq <| wp_region_list <| st1 hS (mv rfl) rfl fun a w hS => s_call hS rfl Try.call12 (huff_Check_c hG K lengths14 A15 c16 (hr17.app _) hc18 (hS.st.part 0 [0] (by kernel_rfl)) (wp_bind hM) (fun x109 w hM  hst => s_back hS.ev hst.appF rfl fun hS => ?_))
 replace hS : Ss _ _ _ H [f19] F _ _ := hS
 refine st1 hS (asg rfl) rfl fun a w hS => wpList_nil <| then_n <| wp_seq <| wp_region_list <| st1 hS (mv rfl) rfl fun a w hS => st1 hS (bin rfl rfl rfl) rfl fun a w hS => wpList_nil <| then_n <| s_cond hS rfl hM (fun hb110 hM => ?_) (fun hb110 hM => ?_)
 ·refine wp_seq ?_
  refine wp_region_list <| st1 hS (mv rfl) rfl fun a w hS => st1 hS (asg rfl) rfl fun a w hS => ?_
  obtain ⟨f111, hV112, hS⟩ := hS.nilV 3 (ci .i64) 1
  refine st1 hS (asg rfl) rfl fun a w hS => wpList_nil <| then_n <| wp_ret <| then_ret ?_
  exact s_ret (rs := [2, 3]) hS rfl rfl (hret none (0) ([] : List Int) f111 x109 w (wp_ok hM) hV112 (hS.st.pick [0] (by kernel_rfl)))
 ·refine wp_skip ?_
  refine then_n <| wp_seq <| wp_region_list <| st1 hS (mv rfl) rfl fun a w hS => s_call hS rfl Try.call26 (huff_count_c hG K lengths14 A15 c16 (hr17.app _) hc18 (hS.st.part 0 [0] (by kernel_rfl)) (wp_bind hM) (fun x113 x114 w hM h115 hst => s_back hS.ev hst.appF rfl fun hS => ?_))
  replace hS : Ss _ _ _ H [f19] F _ _ := hS
  refine st1 hS (mv rfl) rfl fun a w hS => st1 hS (ex rfl rfl) rfl fun a w hS => st1 hS (ex rfl rfl) rfl fun a w hS => alc ((List.replicate 16 (0 : Int)).flatMap (ci .i64)) hS Try.zeroValue56 rfl rfl fun w b116 f117 hB118 hS => stAr (xs := (List.replicate 16 (0 : Int))) (ys := x113) (g := (ci .i64)) (pre := []) (post := []) 0 hS rfl rfl hB118 rfl (by simp) rfl (flat_ln (g := (ci .i64)) (sz := 1) (fun _ => rfl) (List.length_replicate ..)) (flat_ln (g := (ci .i64)) (sz := 1) (fun _ => rfl) h115) (one_t3) Try.sizeOf56 fun w f119 hB120 hS => ?_
  replace hB120 : Blk f119 b116 (x113.flatMap (ci .i64)) 56 := by simpa using hB120
  refine st1 hS (asg rfl) rfl fun a w hS => wpList_nil <| then_n <| wp_seq <| wp_region_list <| st1 hS (ldAr (xs := x113) (g := (ci .i64)) (pre := []) (post := []) 0 rfl hB120 rfl (by simp) rfl (flat_ln (g := (ci .i64)) (sz := 1) (fun _ => rfl) h115) Try.isAgg56 Try.sizeOf56) rfl fun a w hS => s_call hS rfl Try.call27 (huff_counted_firsts_c hG K x113 h115 (hS.st.part 0 [0, 1] (by kernel_rfl)) (wp_bind hM) (fun x173 w hM h174 hst => s_back hS.ev hst.appF rfl fun hS => ?_))
  replace hS : Ss _ _ _ H [f119, f19] F _ _ := hS
  refine alc ((List.replicate 16 (0 : Int)).flatMap (ci .i64)) hS Try.zeroValue56 rfl rfl fun w b175 f176 hB177 hS => stAr (xs := (List.replicate 16 (0 : Int))) (ys := x173) (g := (ci .i64)) (pre := []) (post := []) 0 hS rfl rfl hB177 rfl (by simp) rfl (flat_ln (g := (ci .i64)) (sz := 1) (fun _ => rfl) (List.length_replicate ..)) (flat_ln (g := (ci .i64)) (sz := 1) (fun _ => rfl) h174) (one_t3) Try.sizeOf56 fun w f178 hB179 hS => ?_
  replace hB179 : Blk f178 b175 (x173.flatMap (ci .i64)) 56 := by simpa using hB179
  refine wpList_nil <| then_n <| wp_seq <| wp_region_list <| st1 hS (mv rfl) rfl fun a w hS => st1 hS (lenV rfl Try.runUnderlying22) rfl fun a w hS => ?_
  obtain ⟨hk180, hM⟩ := wp_chk hM
  refine mkS (g := (ci .i64)) (m := (lengths14.length : Int)) (0 : Int) hS rfl rfl (by simp) Try.runUnderlying22 X.el3 (fun w => ⟨_, Try.zeroValue3 w, rfl⟩) (fun _ => rfl) rfl rfl hk180 rfl fun zs185 w A181 c182 f183 hz hV184 hS => ?_
  have hM := lt_to hz hM; clear hz
  refine st1 hS (asg rfl) rfl fun a w hS => wpList_nil <| then_n <| wp_seq <| wp_seq <| wp_region_list <| st1 hS (mv rfl) rfl fun a w hS => st1 hS (lenV rfl Try.runUnderlying22) rfl fun a w hS => st1 hS (mv rfl) rfl fun a w hS => wpList_nil <| then_n <| wp_block <| s_loopJ (fun k218 a w => ∃ (next210 : (List Int)) (f212 : Frag) (out214 : (List Int)) (f215 : Frag) (v217 : Int), Ss 48 [] [(7, ptr b175 0), (8, .slice A181 out214.length c182), (26, .slice A15 lengths14.length c16), (27, .int .i64 (lengths14.length : Int)), (28, .int .i64 v217)] H [f212, f215] F a w ∧ (next210.length = 16) ∧ (Blk f212 b175 (next210.flatMap (ci .i64)) 56) ∧ (Vec 3 (ci .i64) 1 A181 out214 c182 f215) ∧ (huff_Codes.l1 K lengths14 k218 next210 out214 v217).wp kr kp) K ?_ ?_ ?_
  ·exact ⟨x173, f178, zs185, f183, (0 : Int), hS.to [1, 0] (by kernel_rfl) ⟨rfl, rfl, rfl, rfl, rfl, trivial⟩, h174, hB179, hV184, hM⟩
  ·intro a w hI; obtain ⟨_, _, _, _, _, _, _, _, _, hM⟩ := hI; exact wp_fail hM
  ·intro k218 a w hI J233 hJ233
   obtain ⟨next210, f212, out214, f215, v217, hS, hl211, hB213, hV216, hM⟩ := hI
   rw [huff_Codes.l1] at hM
   refine wp_seq <| wp_region_list <| st1 hS (bin rfl rfl rfl) rfl fun a w hS => wpList_nil <| then_n <| wp_seq <| s_cond hS rfl hM (fun hb219 hM => ?_) (fun hb219 hM => ?_)
   ·refine wp_skip ?_
    refine then_n <| wp_seq <| wp_block <| wp_seq <| wp_region_list <| st1 hS (mv rfl) rfl fun a w hS => ?_
    obtain ⟨hk220, hM⟩ := wp_chk hM
    refine st1 hS (ixV rfl rfl Try.runUnderlying22 Try.sizeOf3 hr17.wk (fun _ => rfl) rfl hk220) rfl fun a w hS => st1 hS (ldV0 rfl hr17.wk (fun _ => rfl) hk220 rfl Try.isAgg3) rfl fun a w hS => st1 hS (asg rfl) rfl fun a w hS => st1x (v := Value.int .i64) (x0 := (rd lengths14 v217)) hS (asg rfl) rfl fun n_221 a w hz hS => ?_
    have hM := lt_to hz hM; clear hz
    refine wpList_nil <| then_n <| wp_seq <| wp_region_list <| st1 hS (mv rfl) rfl fun a w hS => st1 hS (bin rfl rfl rfl) rfl fun a w hS => wpList_nil <| then_n <| s_cond hS rfl hM (fun hb222 hM => ?_) (fun hb222 hM => ?_)
    ·refine wp_seq ?_
     refine wp_region_list <| st1 hS (mv rfl) rfl fun a w hS => st1 hS (mv rfl) rfl fun a w hS => st1 hS (mv rfl) rfl fun a w hS => ?_
     obtain ⟨hk223, hM⟩ := wp_chk hM
     refine st1 hS (ixB rfl rfl Try.runUnderlying56 Try.sizeOf3 hk223) rfl fun a w hS => st1 hS (ldR (xs := next210) (g := (ci .i64)) (pre := []) (post := []) 0 rfl hB213 rfl (by simp) rfl (fun _ => rfl) (inb_len hl211 hk223) rfl Try.isAgg3) rfl fun a w hS => ?_
     obtain ⟨hk224, hM⟩ := wp_chk hM
     refine st1 hS (ixV rfl rfl Try.runUnderlying22 Try.sizeOf3 (hV216.rd (i := 1) rfl) (fun _ => rfl) rfl hk224) rfl fun a w hS => stV (i := v217) (sz := 1) 1 0 ((rd next210 n_221)) hS rfl rfl hV216 rfl Try.sizeOf3 (one_t3 (rd next210 n_221)) (fun _ => rfl) hk224 rfl rfl fun zs227 w f225 hz hz228 hV226 hS => ?_
     have hM := lt_to hz hM; clear hz
     replace hS := hS.re 8 (u := .slice A181 out214.length c182) (v := .slice A181 zs227.length c182) rfl (by rw [hz228])
     replace hS := hS.re 35 (u := .slice A181 out214.length c182) (v := .slice A181 zs227.length c182) rfl (by rw [hz228])
     refine wpList_nil <| then_n <| wp_region_list <| st1 hS (mv rfl) rfl fun a w hS => st1 hS (ixB rfl rfl Try.runUnderlying56 Try.sizeOf3 hk223) rfl fun a w hS => st1 hS (ldR (xs := next210) (g := (ci .i64)) (pre := []) (post := []) 0 rfl hB213 rfl (by simp) rfl (fun _ => rfl) (inb_len hl211 hk223) rfl Try.isAgg3) rfl fun a w hS => st1 hS (bin rfl rfl rfl) rfl fun a w hS => st1 hS (ixB rfl rfl Try.runUnderlying56 Try.sizeOf3 hk223) rfl fun a w hS => stR (xs := next210) (g := (ci .i64)) (pre := []) (post := []) 0 ((w64 ((rd next210 n_221) + (1 : Int)))) hS rfl rfl hB213 rfl (by simp) rfl (fun _ => rfl) (inb_len hl211 hk223) rfl Try.sizeOf3 (one_t3 _) fun zs231 w f229 hz hB230 hS => ?_
     have hl232 : zs231.length = 16 := by rw [hz, List.length_set]; exact hl211
     have hM := lt_to hz hM; clear hz
     replace hB230 : Blk f229 b175 (zs231.flatMap (ci .i64)) 56 := by simpa using hB230
     refine wpList_nil <| blk_n (then_n ?_)
     refine wp_region_list <| st1 hS (bin rfl rfl rfl) rfl fun a w hS => st1 hS (mv rfl) rfl fun a w hS => wpList_nil <| then_n ?_
     exact hJ233 _ _ ⟨zs231, f229, zs227, f225, (w64 (v217 + (1 : Int))), hS.to [0, 1] (by kernel_rfl) ⟨rfl, rfl, rfl, rfl, rfl, trivial⟩, hl232, hB230, hV226, hM⟩
    ·refine wp_skip ?_
     refine blk_n (then_n ?_)
     refine wp_region_list <| st1 hS (bin rfl rfl rfl) rfl fun a w hS => st1 hS (mv rfl) rfl fun a w hS => wpList_nil <| then_n ?_
     exact hJ233 _ _ ⟨next210, f212, out214, f215, (w64 (v217 + (1 : Int))), hS.to [0, 1] (by kernel_rfl) ⟨rfl, rfl, rfl, rfl, rfl, trivial⟩, hl211, hB213, hV216, hM⟩
   ·refine wp_exit ?_
    refine then_ex (then_ex (blk_same (then_n ?_)))
    refine wp_seq <| wp_region_list <| st1 hS (mv rfl) rfl fun a w hS => st1 hS (asg rfl) rfl fun a w hS => st1 hS (asg rfl) rfl fun a w hS => wpList_nil <| then_n <| wp_ret ?_
    exact s_ret (rs := [2, 3]) hS rfl rfl (hret A181 c182 out214 f215 (0 : Int) w (wp_ok hM) hV216 (hS.st.pick [1] (by kernel_rfl)))

theorem mortiseref06_Check_c {H : Imm} {F : List Frag} {w : World} {R : Ending → World → Prop} {kr : Int → Prop} {kp : Value → Prop} (hG : Gl H) (K : Nat) (l_253 : List Int) (A254 : Option Addr) (c255 : Nat) (hr256 : Rdl H [] F (ci .i64) A254 l_253) (hc257 : l_253.length ≤ c255)
    (hS : St w H [] F) (hm : (mortiseref06_Check.m K l_253).wp kr kp)
    (hret : ∀ (x286 : Int) (w : World), kr x286 → St w H [] F → R (.returned (.int .i64 x286)) w) :
    Calls Try.prog 13 ⟨[.slice A254 l_253.length c255]⟩ w R := by
 refine enter Try.func13 rfl Try.ntmps13 rfl hS fun a w hS => ?_
 have hM := hm; clear hm
 rw [mortiseref06_Check.m] at hM
 refine wp_seq <| wp_region_list <| st1 hS (asg rfl) rfl fun a w hS => wpList_nil <| then_n <| wp_seq <| wp_seq <| wp_region_list <| st1 hS (mv rfl) rfl fun a w hS => st1 hS (lenV rfl Try.runUnderlying22) rfl fun a w hS => st1 hS (bin rfl rfl rfl) rfl fun a w hS => wpList_nil <| then_n <| s_cond hS rfl hM (fun hb258 hM => ?_) (fun hb258 hM => ?_)
 ·refine wp_seq ?_
  refine wp_region_list <| st1 hS (asg rfl) rfl fun a w hS => wpList_nil <| then_n <| wp_ret <| then_ret ?_
  exact s_ret (rs := [2]) hS rfl rfl (hret (1 : Int) w (wp_ok hM) (hS.st.pick [] (by kernel_rfl)))
 ·refine wp_skip ?_
  refine then_n <| wp_seq <| wp_region_list <| st1 hS (asg rfl) rfl fun a w hS => wpList_nil <| then_n <| wp_seq <| wp_region_list <| st1 hS (asg rfl) rfl fun a w hS => wpList_nil <| then_n <| wp_seq <| wp_region_list <| st1 hS (asg rfl) rfl fun a w hS => wpList_nil <| then_n <| seq_joinJ (fun a w => ∃ (sum275 : Int) (n_276 : Int) (last277 : Int), Ss 62 [] [(3, .int .i64 sum275), (4, .int .i64 n_276), (5, .int .i64 last277)] H [] F a w ∧ (mortiseref06_Check.j2 K sum275 n_276 last277).wp kr kp) (fun J278 hJ278 => ?_) ?_
  ·refine wp_seq ?_
   refine wp_region_list <| st1 hS (asg rfl) rfl fun a w hS => wpList_nil <| then_n <| wp_block <| s_loopJ (fun k263 a w => ∃ (sum259 : Int) (n_260 : Int) (last261 : Int) (i262 : Int), Ss 62 [] [(0, .slice A254 l_253.length c255), (3, .int .i64 sum259), (4, .int .i64 n_260), (5, .int .i64 last261), (6, .int .i64 i262)] H [] F a w ∧ (mortiseref06_Check.l1 K l_253 k263 sum259 n_260 last261 i262).wp kr kp) K ?_ ?_ ?_
   ·exact ⟨(0 : Int), (0 : Int), (0 : Int), (0 : Int), hS.to [] (by kernel_rfl) ⟨rfl, rfl, rfl, rfl, rfl, trivial⟩, hM⟩
   ·intro a w hI; obtain ⟨_, _, _, _, _, hM⟩ := hI; exact wp_fail hM
   ·intro k263 a w hI J274 hJ274
    obtain ⟨sum259, n_260, last261, i262, hS, hM⟩ := hI
    rw [mortiseref06_Check.l1] at hM
    refine wp_seq <| wp_seq <| wp_region_list <| st1 hS (mv rfl) rfl fun a w hS => st1 hS (mv rfl) rfl fun a w hS => st1 hS (lenV rfl Try.runUnderlying22) rfl fun a w hS => st1 hS (bin rfl rfl rfl) rfl fun a w hS => wpList_nil <| then_n <| s_cond hS rfl hM (fun hb264 hM => ?_) (fun hb264 hM => ?_)
    ·refine wp_skip ?_
     refine then_n <| wp_seq <| wp_block <| wp_seq <| wp_seq <| wp_region_list <| st1 hS (mv rfl) rfl fun a w hS => st1 hS (mv rfl) rfl fun a w hS => ?_
     obtain ⟨hk265, hM⟩ := wp_chk hM
     refine st1 hS (ixV rfl rfl Try.runUnderlying22 Try.sizeOf3 hr256.wk (fun _ => rfl) rfl hk265) rfl fun a w hS => st1 hS (ldV0 rfl hr256.wk (fun _ => rfl) hk265 rfl Try.isAgg3) rfl fun a w hS => st1 hS (bin rfl rfl rfl) rfl fun a w hS => st1 hS (mv rfl) rfl fun a w hS => g_op 5 false 21 (b := (decide ((rd l_253 i262) < (0 : Int)))) (r := (decide ((rd l_253 i262) > (15 : Int)))) hS rfl rfl rfl rfl rfl rfl rfl (fun hb a w hS K hK => ?_) rfl fun a w hS => ?_
     ·refine st1g hS rfl rfl rfl hb (mv rfl) rfl fun a w hS => ?_
      refine st1g hS rfl rfl rfl hb (mv rfl) rfl fun a w hS => st1g hS rfl rfl rfl hb (ixV rfl rfl Try.runUnderlying22 Try.sizeOf3 hr256.wk (fun _ => rfl) rfl hk265) rfl fun a w hS => st1g hS rfl rfl rfl hb (ldV0 rfl hr256.wk (fun _ => rfl) hk265 rfl Try.isAgg3) rfl fun a w hS => st1g hS rfl rfl rfl hb (bin rfl rfl rfl) rfl fun a w hS => ?_
      exact wpList_nil (hK _ _ (hS.up 5 rfl rfl))
     refine wpList_nil <| then_n <| s_cond hS rfl hM (fun hb266 hM => ?_) (fun hb266 hM => ?_)
     ·refine wp_seq ?_
      refine wp_region_list <| st1 hS (asg rfl) rfl fun a w hS => wpList_nil <| then_n <| wp_ret <| then_ret (blk_ret (then_ret (then_ret (blk_ret (then_ret ?_)))))
      exact s_ret (rs := [2]) hS rfl rfl (hret (1 : Int) w (wp_ok hM) (hS.st.pick [] (by kernel_rfl)))
     ·refine wp_skip ?_
      refine then_n <| wp_seq <| wp_region_list <| st1 hS (mv rfl) rfl fun a w hS => st1 hS (mv rfl) rfl fun a w hS => st1 hS (ixV rfl rfl Try.runUnderlying22 Try.sizeOf3 hr256.wk (fun _ => rfl) rfl hk265) rfl fun a w hS => st1 hS (ldV0 rfl hr256.wk (fun _ => rfl) hk265 rfl Try.isAgg3) rfl fun a w hS => st1 hS (bin rfl rfl rfl) rfl fun a w hS => wpList_nil <| then_n <| s_cond hS rfl hM (fun hb267 hM => ?_) (fun hb267 hM => ?_)
      ·refine wp_seq ?_
       refine wp_region_list <| st1 hS (mv rfl) rfl fun a w hS => st1 hS (mv rfl) rfl fun a w hS => st1 hS (mv rfl) rfl fun a w hS => st1 hS (ixV rfl rfl Try.runUnderlying22 Try.sizeOf3 hr256.wk (fun _ => rfl) rfl hk265) rfl fun a w hS => st1 hS (ldV0 rfl hr256.wk (fun _ => rfl) hk265 rfl Try.isAgg3) rfl fun a w hS => st1 hS (bin rfl rfl rfl) rfl fun a w hS => st1 hS (cvi rfl Try.runUnderlying3 Try.runUnderlying46) rfl fun a w hS => ?_
       obtain ⟨hk268, hM⟩ := wp_chk hM
       refine st1 hS (shl rfl rfl hk268) rfl fun a w hS => st1 hS (bin rfl rfl rfl) rfl fun a w hS => st1x (v := Value.int .i64) (x0 := (w64 (sum259 + (ishl .i64 (1 : Int) (wr .u64 (w64 ((15 : Int) - (rd l_253 i262)))))))) hS (asg rfl) rfl fun sum269 a w hz hS => ?_
       have hM := lt_to hz hM; clear hz
       refine wpList_nil <| then_n <| wp_seq <| wp_region_list <| st1 hS (mv rfl) rfl fun a w hS => st1 hS (bin rfl rfl rfl) rfl fun a w hS => st1x (v := Value.int .i64) (x0 := (w64 (n_260 + (1 : Int)))) hS (asg rfl) rfl fun n_270 a w hz hS => ?_
       have hM := lt_to hz hM; clear hz
       refine wpList_nil <| then_n <| wp_region_list <| st1 hS (mv rfl) rfl fun a w hS => st1 hS (mv rfl) rfl fun a w hS => st1 hS (ixV rfl rfl Try.runUnderlying22 Try.sizeOf3 hr256.wk (fun _ => rfl) rfl hk265) rfl fun a w hS => st1 hS (ldV0 rfl hr256.wk (fun _ => rfl) hk265 rfl Try.isAgg3) rfl fun a w hS => st1x (v := Value.int .i64) (x0 := (rd l_253 i262)) hS (asg rfl) rfl fun last271 a w hz hS => ?_
       have hM := lt_to hz hM; clear hz
       refine wpList_nil <| blk_n (then_n ?_)
       refine wp_region_list <| st1 hS (mv rfl) rfl fun a w hS => st1 hS (bin rfl rfl rfl) rfl fun a w hS => st1x (v := Value.int .i64) (x0 := (w64 (i262 + (1 : Int)))) hS (asg rfl) rfl fun i272 a w hz hS => ?_
       have hM := lt_to hz hM; clear hz
       refine wpList_nil <| then_n ?_
       exact hJ274 _ _ ⟨sum269, n_270, last271, i272, hS.to [] (by kernel_rfl) ⟨rfl, rfl, rfl, rfl, rfl, trivial⟩, hM⟩
      ·refine wp_skip ?_
       refine blk_n (then_n ?_)
       refine wp_region_list <| st1 hS (mv rfl) rfl fun a w hS => st1 hS (bin rfl rfl rfl) rfl fun a w hS => st1x (v := Value.int .i64) (x0 := (w64 (i262 + (1 : Int)))) hS (asg rfl) rfl fun i273 a w hz hS => ?_
       have hM := lt_to hz hM; clear hz
       refine wpList_nil <| then_n ?_
       exact hJ274 _ _ ⟨sum259, n_260, last261, i273, hS.to [] (by kernel_rfl) ⟨rfl, rfl, rfl, rfl, rfl, trivial⟩, hM⟩
    ·refine wp_exit ?_
     refine then_ex (then_ex (blk_same (then_n ?_)))
     exact hJ278 _ _ ⟨sum259, n_260, last261, hS.to [] (by kernel_rfl) ⟨rfl, rfl, rfl, trivial⟩, hM⟩
  ·intro a w hI
   obtain ⟨sum275, n_276, last277, hS, hM⟩ := hI
   rw [mortiseref06_Check.j2] at hM
   refine wp_seq <| wp_seq <| wp_region_list <| st1 hS (mv rfl) rfl fun a w hS => st1 hS (bin rfl rfl rfl) rfl fun a w hS => st1 hS (mv rfl) rfl fun a w hS => seg_cutJ (fun a w => ∃ (v283 : Bool), Ss 62 [] [(3, .int .i64 sum275), (57, .bool v283)] H [] F a w ∧ (mortiseref06_Check.j4 K sum275 v283).wp kr kp) 7 (fun J284 hJ284 => ?_) ?_
   ·refine ifB (b := (n_276 == (0 : Int))) hM (fun hb279 hM => ?_) (fun hb279 hM => ?_)
    ·replace hS := hS.re 49 (v := .bool true) rfl (congrArg Value.bool hb279)
     replace hS := hS.re 50 (v := .bool true) rfl (congrArg Value.bool hb279)
     refine skips 6 hS rfl fun a w hS => st1 hS (pk rfl rfl rfl) rfl fun a w hS => wpList_nil <| then_n ?_
     exact hJ284 _ _ ⟨true, hS.to [] (by kernel_rfl) ⟨rfl, rfl, trivial⟩, hM⟩
    ·replace hS := hS.re 49 (v := .bool false) rfl (congrArg Value.bool hb279)
     replace hS := hS.re 50 (v := .bool false) rfl (congrArg Value.bool hb279)
     refine st1g hS rfl rfl rfl rfl (mv rfl) rfl fun a w hS => st1g hS rfl rfl rfl rfl (bin rfl rfl rfl) rfl fun a w hS => st1g hS rfl rfl rfl rfl (mv rfl) rfl fun a w hS => seg_cutJ (fun a w => ∃ (v281 : Bool), Ss 62 [] [(3, .int .i64 sum275), (50, .bool false), (56, .bool v281)] H [] F a w ∧ (mortiseref06_Check.j3 K sum275 v281).wp kr kp) 3 (fun J282 hJ282 => ?_) ?_
     ·refine ifB (b := (n_276 == (1 : Int))) hM (fun hb280 hM => ?_) (fun hb280 hM => ?_)
      ·replace hS := hS.re 52 (v := .bool true) rfl (congrArg Value.bool hb280)
       replace hS := hS.re 53 (v := .bool true) rfl (congrArg Value.bool hb280)
       refine st1g hS rfl rfl rfl rfl (mv rfl) rfl fun a w hS => st1g hS rfl rfl rfl rfl (bin rfl rfl rfl) rfl fun a w hS => st1g hS rfl rfl rfl rfl (pk rfl rfl rfl) rfl fun a w hS => wpList_nil <| then_n ?_
       exact hJ282 _ _ ⟨(last277 == (1 : Int)), hS.to [] (by kernel_rfl) ⟨rfl, rfl, rfl, trivial⟩, hM⟩
      ·replace hS := hS.re 52 (v := .bool false) rfl (congrArg Value.bool hb280)
       replace hS := hS.re 53 (v := .bool false) rfl (congrArg Value.bool hb280)
       refine skips 2 hS rfl fun a w hS => st1g hS rfl rfl rfl rfl (pk rfl rfl rfl) rfl fun a w hS => wpList_nil <| then_n ?_
       exact hJ282 _ _ ⟨false, hS.to [] (by kernel_rfl) ⟨rfl, rfl, rfl, trivial⟩, hM⟩
     ·intro a w hI
      obtain ⟨v281, hS, hM⟩ := hI
      rw [mortiseref06_Check.j3] at hM
      refine st1 hS (pk rfl rfl rfl) rfl fun a w hS => wpList_nil <| then_n ?_
      exact hJ284 _ _ ⟨v281, hS.to [] (by kernel_rfl) ⟨rfl, rfl, trivial⟩, hM⟩
   ·intro a w hI
    obtain ⟨v283, hS, hM⟩ := hI
    rw [mortiseref06_Check.j4] at hM
    refine st1 hS (mv rfl) rfl fun a w hS => g_op 2 false 58 (b := v283) (r := (sum275 == (32768 : Int))) hS rfl rfl rfl rfl rfl rfl rfl (fun hb a w hS K hK => ?_) rfl fun a w hS => ?_
    ·refine st1g hS rfl rfl rfl hb (mv rfl) rfl fun a w hS => ?_
     refine st1g hS rfl rfl rfl hb (bin rfl rfl rfl) rfl fun a w hS => ?_
     exact wpList_nil (hK _ _ (hS.up 2 rfl rfl))
    refine wpList_nil <| then_n <| s_cond hS rfl hM (fun hb285 hM => ?_) (fun hb285 hM => ?_)
    ·refine wp_seq ?_
     refine wp_region_list <| st1 hS (asg rfl) rfl fun a w hS => wpList_nil <| then_n <| wp_ret <| then_ret ?_
     exact s_ret (rs := [2]) hS rfl rfl (hret (0 : Int) w (wp_ok hM) (hS.st.pick [] (by kernel_rfl)))
    ·refine wp_skip ?_
     refine then_n <| wp_seq <| wp_region_list <| st1 hS (asg rfl) rfl fun a w hS => wpList_nil <| then_n <| wp_ret ?_
     exact s_ret (rs := [2]) hS rfl rfl (hret (3 : Int) w (wp_ok hM) (hS.st.pick [] (by kernel_rfl)))

theorem mortiseref06_Codes_c {H : Imm} {F : List Frag} {w : World} {R : Ending → World → Prop} {kr : ((List Int) × Int) → Prop} {kp : Value → Prop} (hG : Gl H) (K : Nat) (l_246 : List Int) (A247 : Option Addr) (c248 : Nat) (hr249 : Rdl H [] F (ci .i64) A247 l_246) (hc250 : l_246.length ≤ c248)
    (hS : St w H [] F) (hm : (mortiseref06_Codes.m K l_246).wp kr kp)
    (hret : ∀ (A394 : Option Addr) (c395 : Nat) (x396 : (List Int)) (f397 : Frag) (x399 : Int) (w : World), kr (x396, x399) → (Vec 3 (ci .i64) 1 A394 x396 c395 f397) → St w H [f397] F → R (.returned (.tuple ⟨[.slice A394 x396.length c395, .int .i64 x399]⟩)) w) :
    Calls Try.prog 10 ⟨[.slice A247 l_246.length c248]⟩ w R := by
 refine enter Try.func10 rfl Try.ntmps10 rfl hS fun a w hS => ?_
 have hM := hm; clear hm
 rw [mortiseref06_Codes.m] at hM
 refine wp_seq <| wp_region_list <| st1 hS (asg rfl) rfl fun a w hS => ?_
 obtain ⟨f251, hV252, hS⟩ := hS.nilV 3 (ci .i64) 1
 refine st1 hS (asg rfl) rfl fun a w hS => wpList_nil <| then_n <| wp_seq <| wp_region_list <| st1 hS (mv rfl) rfl fun a w hS => s_call hS rfl Try.call13 (mortiseref06_Check_c hG K l_246 A247 c248 (hr249.app _) hc250 (hS.st.part 0 [0] (by kernel_rfl)) (wp_bind hM) (fun x287 w hM  hst => s_back hS.ev hst.appF rfl fun hS => ?_))
 replace hS : Ss _ _ _ H [f251] F _ _ := hS
 refine st1 hS (asg rfl) rfl fun a w hS => wpList_nil <| then_n <| wp_seq <| wp_seq <| wp_region_list <| st1 hS (mv rfl) rfl fun a w hS => st1 hS (bin rfl rfl rfl) rfl fun a w hS => wpList_nil <| then_n <| s_cond hS rfl hM (fun hb288 hM => ?_) (fun hb288 hM => ?_)
 ·refine wp_seq ?_
  refine wp_region_list <| st1 hS (mv rfl) rfl fun a w hS => st1 hS (asg rfl) rfl fun a w hS => ?_
  obtain ⟨f289, hV290, hS⟩ := hS.nilV 3 (ci .i64) 1
  refine st1 hS (asg rfl) rfl fun a w hS => wpList_nil <| then_n <| wp_ret <| then_ret ?_
  exact s_ret (rs := [2, 3]) hS rfl rfl (hret none (0) ([] : List Int) f289 x287 w (wp_ok hM) hV290 (hS.st.pick [0] (by kernel_rfl)))
 ·refine wp_skip ?_
  refine then_n <| wp_seq <| wp_region_list <| st1 hS (mv rfl) rfl fun a w hS => st1 hS (lenV rfl Try.runUnderlying22) rfl fun a w hS => ?_
  obtain ⟨hk291, hM⟩ := wp_chk hM
  refine mkS (g := (ci .i64)) (m := (l_246.length : Int)) (0 : Int) hS rfl rfl (by simp) Try.runUnderlying22 X.el3 (fun w => ⟨_, Try.zeroValue3 w, rfl⟩) (fun _ => rfl) rfl rfl hk291 rfl fun zs296 w A292 c293 f294 hz hV295 hS => ?_
  have hM := lt_to hz hM; clear hz
  refine st1 hS (asg rfl) rfl fun a w hS => wpList_nil <| then_n <| wp_seq <| wp_region_list <| st1 hS (asg rfl) rfl fun a w hS => wpList_nil <| then_n <| wp_seq <| wp_seq <| wp_region_list <| st1 hS (asg rfl) rfl fun a w hS => wpList_nil <| then_n <| wp_block <| s_loopJ (fun k351 a w => ∃ (out346 : (List Int)) (f347 : Frag) (code349 : Int) (length350 : Int), Ss 42 [] [(0, .slice A247 l_246.length c248), (5, .slice A292 out346.length c293), (6, .int .i64 code349), (7, .int .i64 length350)] H [f347] F a w ∧ (Vec 3 (ci .i64) 1 A292 out346 c293 f347) ∧ (mortiseref06_Codes.l1 K l_246 k351 out346 code349 length350).wp kr kp) K ?_ ?_ ?_
  ·exact ⟨zs296, f294, (0 : Int), (1 : Int), hS.to [0] (by kernel_rfl) ⟨rfl, rfl, rfl, rfl, trivial⟩, hV295, hM⟩
  ·intro a w hI; obtain ⟨_, _, _, _, _, _, hM⟩ := hI; exact wp_fail hM
  ·intro k351 a w hI J393 hJ393
   obtain ⟨out346, f347, code349, length350, hS, hV348, hM⟩ := hI
   rw [mortiseref06_Codes.l1] at hM
   refine wp_seq <| wp_seq <| wp_region_list <| st1 hS (mv rfl) rfl fun a w hS => st1 hS (bin rfl rfl rfl) rfl fun a w hS => wpList_nil <| then_n <| s_cond hS rfl hM (fun hb352 hM => ?_) (fun hb352 hM => ?_)
   ·refine wp_skip ?_
    refine then_n <| wp_seq <| wp_block <| wp_seq <| wp_region_list <| st1 hS (mv rfl) rfl fun a w hS => st1 hS (bin rfl rfl rfl) rfl fun a w hS => st1x (v := Value.int .i64) (x0 := (w64 (code349 * (2 : Int)))) hS (asg rfl) rfl fun code353 a w hz hS => ?_
    have hM := lt_to hz hM; clear hz
    refine wpList_nil <| then_n <| wp_seq <| wp_region_list <| st1 hS (asg rfl) rfl fun a w hS => wpList_nil <| then_n <| wp_block <| s_loopJ (fun k379 a w => ∃ (out374 : (List Int)) (f375 : Frag) (code377 : Int) (i378 : Int), Ss 42 [] [(0, .slice A247 l_246.length c248), (5, .slice A292 out374.length c293), (6, .int .i64 code377), (7, .int .i64 length350), (8, .int .i64 i378)] H [f375] F a w ∧ (Vec 3 (ci .i64) 1 A292 out374 c293 f375) ∧ (mortiseref06_Codes.l2 K (mortiseref06_Codes.l1 K l_246 k351) l_246 length350 k379 out374 code377 i378).wp kr kp) K ?_ ?_ ?_
    ·exact ⟨out346, f347, code353, (0 : Int), hS.to [0] (by kernel_rfl) ⟨rfl, rfl, rfl, rfl, rfl, trivial⟩, hV348, hM⟩
    ·intro a w hI; obtain ⟨_, _, _, _, _, _, hM⟩ := hI; exact wp_fail hM
    ·intro k379 a w hI J392 hJ392
     obtain ⟨out374, f375, code377, i378, hS, hV376, hM⟩ := hI
     rw [mortiseref06_Codes.l2] at hM
     refine wp_seq <| wp_seq <| wp_region_list <| st1 hS (mv rfl) rfl fun a w hS => st1 hS (mv rfl) rfl fun a w hS => st1 hS (lenV rfl Try.runUnderlying22) rfl fun a w hS => st1 hS (bin rfl rfl rfl) rfl fun a w hS => wpList_nil <| then_n <| s_cond hS rfl hM (fun hb380 hM => ?_) (fun hb380 hM => ?_)
     ·refine wp_skip ?_
      refine then_n <| wp_seq <| wp_block <| wp_seq <| wp_region_list <| st1 hS (mv rfl) rfl fun a w hS => st1 hS (mv rfl) rfl fun a w hS => ?_
      obtain ⟨hk382, hM⟩ := wp_chk hM
      refine st1 hS (ixV rfl rfl Try.runUnderlying22 Try.sizeOf3 hr249.wk (fun _ => rfl) rfl hk382) rfl fun a w hS => st1 hS (ldV0 rfl hr249.wk (fun _ => rfl) hk382 rfl Try.isAgg3) rfl fun a w hS => st1 hS (mv rfl) rfl fun a w hS => st1 hS (bin rfl rfl rfl) rfl fun a w hS => wpList_nil <| then_n <| s_cond hS rfl hM (fun hb383 hM => ?_) (fun hb383 hM => ?_)
      ·refine wp_seq ?_
       refine wp_region_list <| st1 hS (mv rfl) rfl fun a w hS => st1 hS (mv rfl) rfl fun a w hS => st1 hS (mv rfl) rfl fun a w hS => ?_
       obtain ⟨hk384, hM⟩ := wp_chk hM
       refine st1 hS (ixV rfl rfl Try.runUnderlying22 Try.sizeOf3 (hV376.rd (i := 0) rfl) (fun _ => rfl) rfl hk384) rfl fun a w hS => stV (i := i378) (sz := 1) 0 0 (code377) hS rfl rfl hV376 rfl Try.sizeOf3 (one_t3 code377) (fun _ => rfl) hk384 rfl rfl fun zs387 w f385 hz hz388 hV386 hS => ?_
       have hM := lt_to hz hM; clear hz
       replace hS := hS.re 5 (u := .slice A292 out374.length c293) (v := .slice A292 zs387.length c293) rfl (by rw [hz388])
       replace hS := hS.re 35 (u := .slice A292 out374.length c293) (v := .slice A292 zs387.length c293) rfl (by rw [hz388])
       refine wpList_nil <| then_n <| wp_region_list <| st1 hS (mv rfl) rfl fun a w hS => st1 hS (bin rfl rfl rfl) rfl fun a w hS => st1x (v := Value.int .i64) (x0 := (w64 (code377 + (1 : Int)))) hS (asg rfl) rfl fun code389 a w hz hS => ?_
       have hM := lt_to hz hM; clear hz
       refine wpList_nil <| blk_n (then_n ?_)
       refine wp_region_list <| st1 hS (mv rfl) rfl fun a w hS => st1 hS (bin rfl rfl rfl) rfl fun a w hS => st1x (v := Value.int .i64) (x0 := (w64 (i378 + (1 : Int)))) hS (asg rfl) rfl fun i390 a w hz hS => ?_
       have hM := lt_to hz hM; clear hz
       refine wpList_nil <| then_n ?_
       exact hJ392 _ _ ⟨zs387, f385, code389, i390, hS.to [0] (by kernel_rfl) ⟨rfl, rfl, rfl, rfl, rfl, trivial⟩, hV386, hM⟩
      ·refine wp_skip ?_
       refine blk_n (then_n ?_)
       refine wp_region_list <| st1 hS (mv rfl) rfl fun a w hS => st1 hS (bin rfl rfl rfl) rfl fun a w hS => st1x (v := Value.int .i64) (x0 := (w64 (i378 + (1 : Int)))) hS (asg rfl) rfl fun i391 a w hz hS => ?_
       have hM := lt_to hz hM; clear hz
       refine wpList_nil <| then_n ?_
       exact hJ392 _ _ ⟨out374, f375, code377, i391, hS.to [0] (by kernel_rfl) ⟨rfl, rfl, rfl, rfl, rfl, trivial⟩, hV376, hM⟩
     ·refine wp_exit ?_
      refine then_ex (then_ex (blk_same (blk_n (then_n ?_))))
      refine wp_region_list <| st1 hS (mv rfl) rfl fun a w hS => st1 hS (bin rfl rfl rfl) rfl fun a w hS => st1x (v := Value.int .i64) (x0 := (w64 (length350 + (1 : Int)))) hS (asg rfl) rfl fun length381 a w hz hS => ?_
      have hM := lt_to hz hM; clear hz
      refine wpList_nil <| then_n ?_
      exact hJ393 _ _ ⟨out374, f375, code377, length381, hS.to [0] (by kernel_rfl) ⟨rfl, rfl, rfl, rfl, trivial⟩, hV376, hM⟩
   ·refine wp_exit ?_
    refine then_ex (then_ex (blk_same (then_n ?_)))
    refine wp_seq <| wp_region_list <| st1 hS (mv rfl) rfl fun a w hS => st1 hS (asg rfl) rfl fun a w hS => st1 hS (asg rfl) rfl fun a w hS => wpList_nil <| then_n <| wp_ret ?_
    exact s_ret (rs := [2, 3]) hS rfl rfl (hret A292 c293 out346 f347 (0 : Int) w (wp_ok hM) hV348 (hS.st.pick [0] (by kernel_rfl)))

theorem mortiseref06_SameInts_c {H : Imm} {F : List Frag} {w : World} {R : Ending → World → Prop} {kr : Bool → Prop} {kp : Value → Prop} (hG : Gl H) (K : Nat) (a_407 : List Int) (b_412 : List Int) (A408 : Option Addr) (c409 : Nat) (A413 : Option Addr) (c414 : Nat) (hr410 : Rdl H [] F (ci .i64) A408 a_407) (hc411 : a_407.length ≤ c409) (hr415 : Rdl H [] F (ci .i64) A413 b_412) (hc416 : b_412.length ≤ c414)
    (hS : St w H [] F) (hm : (mortiseref06_SameInts.m K a_407 b_412).wp kr kp)
    (hret : ∀ (x428 : Bool) (w : World), kr x428 → St w H [] F → R (.returned (.bool x428)) w) :
    Calls Try.prog 11 ⟨[.slice A408 a_407.length c409, .slice A413 b_412.length c414]⟩ w R := by
 refine enter Try.func11 rfl Try.ntmps11 rfl hS fun a w hS => ?_
 have hM := hm; clear hm
 rw [mortiseref06_SameInts.m] at hM
 refine wp_seq <| wp_region_list <| st1 hS (asg rfl) rfl fun a w hS => wpList_nil <| then_n <| wp_seq <| wp_seq <| wp_region_list <| st1 hS (mv rfl) rfl fun a w hS => st1 hS (lenV rfl Try.runUnderlying22) rfl fun a w hS => st1 hS (mv rfl) rfl fun a w hS => st1 hS (lenV rfl Try.runUnderlying22) rfl fun a w hS => st1 hS (bin rfl rfl rfl) rfl fun a w hS => wpList_nil <| then_n <| s_cond hS rfl hM (fun hb417 hM => ?_) (fun hb417 hM => ?_)
 ·refine wp_seq ?_
  refine wp_region_list <| st1 hS (asg rfl) rfl fun a w hS => wpList_nil <| then_n <| wp_ret <| then_ret ?_
  exact s_ret (rs := [4]) hS rfl rfl (hret false w (wp_ok hM) (hS.st.pick [] (by kernel_rfl)))
 ·refine wp_skip ?_
  refine then_n <| wp_seq <| wp_seq <| wp_region_list <| st1 hS (asg rfl) rfl fun a w hS => wpList_nil <| then_n <| wp_block <| s_loopJ (fun k419 a w => ∃ (i418 : Int), Ss 26 [] [(0, .slice A408 a_407.length c409), (1, .slice A413 b_412.length c414), (5, .int .i64 i418)] H [] F a w ∧ (mortiseref06_SameInts.l1 K a_407 b_412 k419 i418).wp kr kp) K ?_ ?_ ?_
  ·exact ⟨(0 : Int), hS.to [] (by kernel_rfl) ⟨rfl, rfl, rfl, trivial⟩, hM⟩
  ·intro a w hI; obtain ⟨_, _, hM⟩ := hI; exact wp_fail hM
  ·intro k419 a w hI J427 hJ427
   obtain ⟨i418, hS, hM⟩ := hI
   rw [mortiseref06_SameInts.l1] at hM
   refine wp_seq <| wp_seq <| wp_region_list <| st1 hS (mv rfl) rfl fun a w hS => st1 hS (mv rfl) rfl fun a w hS => st1 hS (lenV rfl Try.runUnderlying22) rfl fun a w hS => st1 hS (bin rfl rfl rfl) rfl fun a w hS => wpList_nil <| then_n <| s_cond hS rfl hM (fun hb420 hM => ?_) (fun hb420 hM => ?_)
   ·refine wp_skip ?_
    refine then_n <| wp_seq <| wp_block <| wp_seq ?_
    obtain ⟨hk422, hM⟩ := wp_chk hM
    obtain ⟨hk424, hM⟩ := wp_chk hM
    refine draw_begin (vals := [some (.slice A408 a_407.length c409), some (.int .i64 i418), some (slp A408 (Int.toNat i418 * 1)), some (.int .i64 (rd a_407 i418)), some (.slice A413 b_412.length c414), some (.int .i64 i418), some (slp A413 (Int.toNat i418 * 1)), some (.int .i64 (rd b_412 i418)), some (.bool ((rd a_407 i418) != (rd b_412 i418)))]) hS mixed rfl ?_
    intro l w ho hcl hA hst
    refine phqE hA hst ho hcl nmust [0, 1, 2, 3, 4, 5, 6, 7, 8] rfl rfl rfl (by exact ⟨nR rfl rfl rfl rfl rfl (by exact ovE (mv rfl) rfl), nR rfl rfl rfl rfl rfl (by exact ovE (mv rfl) rfl), nR rfl rfl rfl rfl rfl (by exact ovE (ixV rfl rfl Try.runUnderlying22 Try.sizeOf3 hr410.wk (fun _ => rfl) rfl hk422) rfl), nR rfl rfl rfl rfl rfl (by exact ovE (ldV0 rfl hr410.wk (fun _ => rfl) hk422 rfl Try.isAgg3) rfl), nR rfl rfl rfl rfl rfl (by exact ovE (mv rfl) rfl), nR rfl rfl rfl rfl rfl (by exact ovE (mv rfl) rfl), nR rfl rfl rfl rfl rfl (by exact ovE (ixV rfl rfl Try.runUnderlying22 Try.sizeOf3 hr415.wk (fun _ => rfl) rfl hk424) rfl), nR rfl rfl rfl rfl rfl (by exact ovE (ldV0 rfl hr415.wk (fun _ => rfl) hk424 rfl Try.isAgg3) rfl), nR rfl rfl rfl rfl rfl (by exact ovE (bin rfl rfl rfl) rfl), trivial⟩) fun a w hS => ?_
    replace hS := hS.env2 (e' := [(0, .slice A408 a_407.length c409), (1, .slice A413 b_412.length c414), (5, .int .i64 i418), (25, .bool ((rd a_407 i418) != (rd b_412 i418)))]) ⟨rfl, rfl, rfl, rfl, trivial⟩
    refine then_n <| s_cond hS rfl hM (fun hb425 hM => ?_) (fun hb425 hM => ?_)
    ·refine wp_seq ?_
     refine wp_region_list <| st1 hS (asg rfl) rfl fun a w hS => wpList_nil <| then_n <| wp_ret <| blk_ret (then_ret (then_ret (blk_ret (then_ret ?_))))
     exact s_ret (rs := [4]) hS rfl rfl (hret false w (wp_ok hM) (hS.st.pick [] (by kernel_rfl)))
    ·refine wp_skip ?_
     refine blk_n (then_n ?_)
     refine wp_region_list <| st1 hS (mv rfl) rfl fun a w hS => st1 hS (bin rfl rfl rfl) rfl fun a w hS => st1x (v := Value.int .i64) (x0 := (w64 (i418 + (1 : Int)))) hS (asg rfl) rfl fun i426 a w hz hS => ?_
     have hM := lt_to hz hM; clear hz
     refine wpList_nil <| then_n ?_
     exact hJ427 _ _ ⟨i426, hS.to [] (by kernel_rfl) ⟨rfl, rfl, rfl, trivial⟩, hM⟩
   ·refine wp_exit ?_
    refine then_ex (then_ex (blk_same (then_n ?_)))
    refine wp_seq <| wp_region_list <| st1 hS (asg rfl) rfl fun a w hS => wpList_nil <| then_n <| wp_ret ?_
    exact s_ret (rs := [4]) hS rfl rfl (hret true w (wp_ok hM) (hS.st.pick [] (by kernel_rfl)))

def T_huff_Table.Own (b603 : Nat) (x604 : T_huff_Table) (f612 : Frag) : Prop :=
  ∃ (f605 : Frag) (A608 : Option Addr) (c609 : Nat) (f610 : Frag), f612 = f605 ++ f610 ∧ Blk f605 b603 ((x604.counts_.flatMap (ci .i64)) ++ [.slice A608 x604.symbols_.length c609]) 61 ∧ x604.counts_.length = 16 ∧ Vec 3 (ci .i64) 1 A608 x604.symbols_ c609 f610

theorem huff_New_c {H : Imm} {F : List Frag} {w : World} {R : Ending → World → Prop} {kr : ((Option T_huff_Table) × Int) → Prop} {kp : Value → Prop} (hG : Gl H) (K : Nat) (lengths456 : List Int) (A457 : Option Addr) (c458 : Nat) (hr459 : Rdl H [] F (ci .i64) A457 lengths456) (hc460 : lengths456.length ≤ c458)
    (hS : St w H [] F) (hm : (huff_New.m K lengths456).wp kr kp)
    (hret : ∀ (A613 : Option Addr) (x614 : Option T_huff_Table) (f615 : Frag) (x617 : Int) (w : World), kr (x614, x617) → (Opt T_huff_Table.Own A613 x614 f615) → St w H [f615] F → R (.returned (.tuple ⟨[.pointer A613, .int .i64 x617]⟩)) w) :
    Calls Try.prog 15 ⟨[.slice A457 lengths456.length c458]⟩ w R := by
 refine enter Try.func15 rfl Try.ntmps15 rfl hS fun a w hS => ?_
 have hM := hm; clear hm
 rw [huff_New.m] at hM
 refine wp_seq <| wp_region_list <| st1 hS (asg rfl) rfl fun a w hS => st1 hS (asg rfl) rfl fun a w hS => wpList_nil <| then_n <| wp_seq <| wp_seq <| wp_region_list <| st1 hS (mv rfl) rfl fun a w hS => s_call hS rfl Try.call12 (huff_Check_c hG K lengths456 A457 c458 (hr459.app _) hc460 (hS.st.part 0 [] (by kernel_rfl)) (wp_bind hM) (fun x461 w hM  hst => s_back hS.ev hst.appF rfl fun hS => ?_))
 replace hS : Ss _ _ _ H [] F _ _ := hS
 refine st1 hS (asg rfl) rfl fun a w hS => wpList_nil <| then_n <| wp_seq <| wp_region_list <| st1 hS (mv rfl) rfl fun a w hS => st1 hS (bin rfl rfl rfl) rfl fun a w hS => wpList_nil <| then_n <| s_cond hS rfl hM (fun hb462 hM => ?_) (fun hb462 hM => ?_)
 ·refine wp_seq ?_
  refine wp_region_list <| st1 hS (mv rfl) rfl fun a w hS => st1 hS (asg rfl) rfl fun a w hS => st1 hS (asg rfl) rfl fun a w hS => wpList_nil <| then_n <| wp_ret <| then_ret ?_
  replace hS := hS.nilF
  exact s_ret (rs := [2, 3]) hS rfl rfl (hret none none ([] : Frag) x461 w (wp_ok hM) (.inl ⟨rfl, rfl, rfl⟩) (hS.st.pick [0] (by kernel_rfl)))
 ·refine wp_skip ?_
  refine then_n <| wp_seq <| wp_region_list <| st1 hS (bld (((List.replicate 16 (0 : Int)).flatMap (ci .i64)) ++ [.slice none 0 0]) [(0, 16), (16, 1)] Try.zeroValue61 Try.runUnderlying61 (by intro w; simp [Try.sizeOf22, Try.sizeOf56]) rfl rfl) rfl fun a w hS => bx (((List.replicate 16 (0 : Int)).flatMap (ci .i64)) ++ [.slice none 0 0]) hS rfl rfl rfl fun w b463 f464 hB465 hS => ?_
  obtain ⟨f466, hV467, hS⟩ := hS.nilV 3 (ci .i64) 1
  refine st1 hS (asg rfl) rfl fun a w hS => wpList_nil <| then_n <| wp_seq <| wp_region_list <| st1 hS (mv rfl) rfl fun a w hS => st1 hS (mv rfl) rfl fun a w hS => s_call hS rfl Try.call26 (huff_count_c hG K lengths456 A457 c458 (hr459.app _) hc460 (hS.st.part 0 [0, 1] (by kernel_rfl)) (wp_bind hM) (fun x468 x469 w hM h470 hst => s_back hS.ev hst.appF rfl fun hS => ?_))
  replace hS : Ss _ _ _ H [f466, f464] F _ _ := hS
  refine st1 hS (mv rfl) rfl fun a w hS => st1 hS (ex rfl rfl) rfl fun a w hS => st1 hS (ex rfl rfl) rfl fun a w hS => st1 hS (nck rfl) rfl fun a w hS => st1 hS (fad rfl Try.runUnderlying61 rfl Try.sizeOf56 rfl) rfl fun a w hS => stAr (xs := (List.replicate 16 (0 : Int))) (ys := x468) (g := (ci .i64)) (pre := []) (post := [.slice none ([] : List Int).length (0)]) 1 hS rfl rfl hB465 rfl (by simp) rfl (flat_ln (g := (ci .i64)) (sz := 1) (fun _ => rfl) (List.length_replicate ..)) (flat_ln (g := (ci .i64)) (sz := 1) (fun _ => rfl) h470) (one_t3) Try.sizeOf56 fun w f471 hB472 hS => ?_
  replace hB472 : Blk f471 b463 ((x468.flatMap (ci .i64)) ++ [.slice none ([] : List Int).length (0)]) 61 := by simpa using hB472
  refine wpList_nil <| then_n <| wp_seq <| wp_seq <| wp_region_list <| st1 hS (asg rfl) rfl fun a w hS => wpList_nil <| then_n <| wp_block <| s_loopJ (fun k546 a w => ∃ (A538 : Option Addr) (c539 : Nat) (symbols540 : (List Int)) (f541 : Frag) (f543 : Frag) (n_545 : Int), Ss 50 [] [(0, .slice A457 lengths456.length c458), (5, ptr b463 0), (6, .int .i64 n_545)] H [f543, f541] F a w ∧ (Vec 3 (ci .i64) 1 A538 symbols540 c539 f541) ∧ (Blk f543 b463 ((x468.flatMap (ci .i64)) ++ [.slice A538 symbols540.length c539]) 61) ∧ (huff_New.l1 K lengths456 x468 k546 symbols540 n_545).wp kr kp) K ?_ ?_ ?_
  ·exact ⟨none, 0, ([] : List Int), f466, f471, (1 : Int), hS.to [1, 0] (by kernel_rfl) ⟨rfl, rfl, rfl, trivial⟩, hV467, hB472, hM⟩
  ·intro a w hI; obtain ⟨_, _, _, _, _, _, _, _, _, hM⟩ := hI; exact wp_fail hM
  ·intro k546 a w hI J602 hJ602
   obtain ⟨A538, c539, symbols540, f541, f543, n_545, hS, hV542, hB544, hM⟩ := hI
   rw [huff_New.l1] at hM
   refine wp_seq <| wp_seq <| wp_region_list <| st1 hS (mv rfl) rfl fun a w hS => st1 hS (bin rfl rfl rfl) rfl fun a w hS => wpList_nil <| then_n <| s_cond hS rfl hM (fun hb547 hM => ?_) (fun hb547 hM => ?_)
   ·refine wp_skip ?_
    refine then_n <| wp_seq <| wp_block <| wp_seq <| wp_region_list <| st1 hS (mv rfl) rfl fun a w hS => st1 hS (lenV rfl Try.runUnderlying22) rfl fun a w hS => st1 hS (mv rfl) rfl fun a w hS => wpList_nil <| then_n <| wp_block <| s_loopJ (fun k583 a w => ∃ (A575 : Option Addr) (c576 : Nat) (symbols577 : (List Int)) (f578 : Frag) (f580 : Frag) (v582 : Int), Ss 50 [] [(0, .slice A457 lengths456.length c458), (5, ptr b463 0), (6, .int .i64 n_545), (28, .slice A457 lengths456.length c458), (29, .int .i64 (lengths456.length : Int)), (30, .int .i64 v582)] H [f580, f578] F a w ∧ (Vec 3 (ci .i64) 1 A575 symbols577 c576 f578) ∧ (Blk f580 b463 ((x468.flatMap (ci .i64)) ++ [.slice A575 symbols577.length c576]) 61) ∧ (huff_New.l2 K (huff_New.l1 K lengths456 x468 k546) lengths456 n_545 k583 symbols577 v582).wp kr kp) K ?_ ?_ ?_
    ·exact ⟨A538, c539, symbols540, f541, f543, (0 : Int), hS.to [0, 1] (by kernel_rfl) ⟨rfl, rfl, rfl, rfl, rfl, rfl, trivial⟩, hV542, hB544, hM⟩
    ·intro a w hI; obtain ⟨_, _, _, _, _, _, _, _, _, hM⟩ := hI; exact wp_fail hM
    ·intro k583 a w hI J601 hJ601
     obtain ⟨A575, c576, symbols577, f578, f580, v582, hS, hV579, hB581, hM⟩ := hI
     rw [huff_New.l2] at hM
     refine wp_seq <| wp_region_list <| st1 hS (bin rfl rfl rfl) rfl fun a w hS => wpList_nil <| then_n <| wp_seq <| s_cond hS rfl hM (fun hb584 hM => ?_) (fun hb584 hM => ?_)
     ·refine wp_skip ?_
      refine then_n <| wp_seq <| wp_block <| wp_seq <| wp_region_list <| st1 hS (mv rfl) rfl fun a w hS => ?_
      obtain ⟨hk586, hM⟩ := wp_chk hM
      refine st1 hS (ixV rfl rfl Try.runUnderlying22 Try.sizeOf3 hr459.wk (fun _ => rfl) rfl hk586) rfl fun a w hS => st1 hS (ldV0 rfl hr459.wk (fun _ => rfl) hk586 rfl Try.isAgg3) rfl fun a w hS => st1 hS (asg rfl) rfl fun a w hS => st1x (v := Value.int .i64) (x0 := (rd lengths456 v582)) hS (asg rfl) rfl fun k_587 a w hz hS => ?_
      have hM := lt_to hz hM; clear hz
      refine wpList_nil <| then_n <| wp_seq <| wp_region_list <| st1 hS (mv rfl) rfl fun a w hS => st1 hS (mv rfl) rfl fun a w hS => st1 hS (bin rfl rfl rfl) rfl fun a w hS => wpList_nil <| then_n <| s_cond hS rfl hM (fun hb588 hM => ?_) (fun hb588 hM => ?_)
      ·refine wp_region_list ?_
       refine st1 hS (mv rfl) rfl fun a w hS => st1 hS (mv rfl) rfl fun a w hS => st1 hS (nck rfl) rfl fun a w hS => st1 hS (fad rfl Try.runUnderlying61 rfl Try.sizeOf22 rfl) rfl fun a w hS => st1 hS (ldP 0 rfl hB581 rfl (by rfl) (flat_ln (g := (ci .i64)) (sz := 1) (fun _ => rfl) h470) Try.isAgg22) rfl fun a w hS => st1 hS (mv rfl) rfl fun a w hS => bsl (g := (ci .i64)) ([v582] : List Int) [.int .i64 v582] hS Try.runUnderlying22 Try.sizeOf3 X.el3 rfl rfl rfl (by simp [Value.cells]) rfl rfl rfl rfl rfl fun w A589 c590 f591 hV592 hS => ?_
       obtain ⟨hk593, hM⟩ := wp_chk hM
       refine apV (ys := ([v582] : List Int)) 2 hS rfl rfl hV579 rfl (hV592.rd (i := 0) rfl) Try.runUnderlying22 Try.runUnderlying22 X.el3 (fun _ => rfl) rfl one_t3 hk593 rfl fun zs598 w A594 c595 f596 hz hV597 hS => ?_
       have hM := lt_to hz hM; clear hz
       refine st1 hS (nck rfl) rfl fun a w hS => st1 hS (fad rfl Try.runUnderlying61 rfl Try.sizeOf22 rfl) rfl fun a w hS => stP 1 hS rfl rfl hB581 rfl rfl (flat_ln (g := (ci .i64)) (sz := 1) (fun _ => rfl) h470) rfl Try.sizeOf22 fun w f599 hB600 hS => wpList_nil <| blk_n (then_n ?_)
       refine wp_region_list <| st1 hS (bin rfl rfl rfl) rfl fun a w hS => st1 hS (mv rfl) rfl fun a w hS => wpList_nil <| then_n ?_
       exact hJ601 _ _ ⟨A594, c595, zs598, f596, f599, (w64 (v582 + (1 : Int))), hS.to [1, 2] (by kernel_rfl) ⟨rfl, rfl, rfl, rfl, rfl, rfl, trivial⟩, hV597, hB600, hM⟩
      ·refine wp_skip ?_
       refine blk_n (then_n ?_)
       refine wp_region_list <| st1 hS (bin rfl rfl rfl) rfl fun a w hS => st1 hS (mv rfl) rfl fun a w hS => wpList_nil <| then_n ?_
       exact hJ601 _ _ ⟨A575, c576, symbols577, f578, f580, (w64 (v582 + (1 : Int))), hS.to [0, 1] (by kernel_rfl) ⟨rfl, rfl, rfl, rfl, rfl, rfl, trivial⟩, hV579, hB581, hM⟩
     ·refine wp_exit ?_
      refine then_ex (then_ex (blk_same (blk_n (then_n ?_))))
      refine wp_region_list <| st1 hS (mv rfl) rfl fun a w hS => st1 hS (bin rfl rfl rfl) rfl fun a w hS => st1x (v := Value.int .i64) (x0 := (w64 (n_545 + (1 : Int)))) hS (asg rfl) rfl fun n_585 a w hz hS => ?_
      have hM := lt_to hz hM; clear hz
      refine wpList_nil <| then_n ?_
      exact hJ602 _ _ ⟨A575, c576, symbols577, f578, f580, n_585, hS.to [0, 1] (by kernel_rfl) ⟨rfl, rfl, rfl, trivial⟩, hV579, hB581, hM⟩
   ·refine wp_exit ?_
    refine then_ex (then_ex (blk_same (then_n ?_)))
    refine wp_seq <| wp_region_list <| st1 hS (mv rfl) rfl fun a w hS => st1 hS (asg rfl) rfl fun a w hS => st1 hS (asg rfl) rfl fun a w hS => wpList_nil <| then_n <| wp_ret ?_
    replace hS := hS.front [0, 1] (by kernel_rfl)
    replace hS := hS.joinF
    exact s_ret (rs := [2, 3]) hS rfl rfl (hret (some ⟨b463, 0, none⟩) (some (T_huff_Table.mk x468 symbols540)) (f543 ++ f541) (0 : Int) w (wp_ok hM) (.inr ⟨_, _, rfl, rfl, f543, A538, c539, f541, rfl, hB544, h470, hV542⟩) (hS.st.pick [0] (by kernel_rfl)))

theorem huff_Lengths_1_c {H : Imm} {F : List Frag} {w : World} {R : Ending → World → Prop} {kr : Bool → Prop} {kp : Value → Prop} (hG : Gl H) (K : Nat) (n_650 : Int)
    (hS : St w H [] F) (hm : (huff_Lengths_1.m K n_650).wp kr kp)
    (hret : ∀ (x652 : Bool) (w : World), kr x652 → St w H [] F → R (.returned (.bool x652)) w) :
    Calls Try.prog 31 ⟨[.int .i64 n_650]⟩ w R := by
 refine enter Try.func31 rfl Try.ntmps31 rfl hS fun a w hS => ?_
 have hM := hm; clear hm
 rw [huff_Lengths_1.m] at hM
 refine wp_seq <| wp_region_list <| st1 hS (asg rfl) rfl fun a w hS => wpList_nil <| then_n <| wp_seq <| wp_region_list <| st1 hS (mv rfl) rfl fun a w hS => st1 hS (bin rfl rfl rfl) rfl fun a w hS => st1 hS (mv rfl) rfl fun a w hS => g_op 2 false 5 (b := (decide (n_650 < (0 : Int)))) (r := (decide (n_650 > (1099511627776 : Int)))) hS rfl rfl rfl rfl rfl rfl rfl (fun hb a w hS K hK => ?_) rfl fun a w hS => ?_
 ·refine st1g hS rfl rfl rfl hb (mv rfl) rfl fun a w hS => ?_
  refine st1g hS rfl rfl rfl hb (bin rfl rfl rfl) rfl fun a w hS => ?_
  exact wpList_nil (hK _ _ (hS.up 2 rfl rfl))
 refine st1x (v := Value.bool) (x0 := ((decide (n_650 < (0 : Int))) || (decide (n_650 > (1099511627776 : Int))))) hS (asg rfl) rfl fun v651 a w hz hS => ?_
 have hM := lt_to hz hM; clear hz
 refine wpList_nil <| then_n <| wp_ret ?_
 exact s_ret (rs := [2]) hS rfl rfl (hret v651 w (wp_ok hM) (hS.st.pick [] (by kernel_rfl)))

theorem slices_IndexFunc___int_int__5d67_c {H : Imm} {F : List Frag} {w : World} {R : Ending → World → Prop} {kr : Int → Prop} {kp : Value → Prop} (hG : Gl H) (K : Nat) (s641 : List Int) (A642 : Option Addr) (c643 : Nat) (hr644 : Rdl H [] F (ci .i64) A642 s641) (hc645 : s641.length ≤ c643)
    (hS : St w H [] F) (hm : (slices_IndexFunc___int_int__5d67.m K s641).wp kr kp)
    (hret : ∀ (x656 : Int) (w : World), kr x656 → St w H [] F → R (.returned (.int .i64 x656)) w) :
    Calls Try.prog 37 ⟨[.slice A642 s641.length c643, fnv 31 [] []]⟩ w R := by
 refine enter Try.func37 rfl Try.ntmps37 rfl hS fun a w hS => ?_
 have hM := hm; clear hm
 rw [slices_IndexFunc___int_int__5d67.m] at hM
 refine wp_seq <| wp_region_list <| st1 hS (asg rfl) rfl fun a w hS => wpList_nil <| then_n <| wp_seq <| wp_seq <| wp_region_list <| st1 hS (mv rfl) rfl fun a w hS => st1 hS (lenV rfl Try.runUnderlying22) rfl fun a w hS => st1 hS (mv rfl) rfl fun a w hS => wpList_nil <| then_n <| wp_block <| s_loopJ (fun k647 a w => ∃ (v646 : Int), Ss 19 [] [(0, .slice A642 s641.length c643), (1, fnv 31 [] []), (7, .int .i64 (s641.length : Int)), (8, .int .i64 v646)] H [] F a w ∧ (slices_IndexFunc___int_int__5d67.l1 K s641 k647 v646).wp kr kp) K ?_ ?_ ?_
 ·exact ⟨(0 : Int), hS.to [] (by kernel_rfl) ⟨rfl, rfl, rfl, rfl, trivial⟩, hM⟩
 ·intro a w hI; obtain ⟨_, _, hM⟩ := hI; exact wp_fail hM
 ·intro k647 a w hI J655 hJ655
  obtain ⟨v646, hS, hM⟩ := hI
  rw [slices_IndexFunc___int_int__5d67.l1] at hM
  refine wp_seq <| wp_region_list <| st1 hS (bin rfl rfl rfl) rfl fun a w hS => wpList_nil <| then_n <| wp_seq <| s_cond hS rfl hM (fun hb648 hM => ?_) (fun hb648 hM => ?_)
  ·refine wp_skip ?_
   refine then_n <| wp_seq <| wp_block <| wp_seq <| wp_region_list <| st1 hS (mv rfl) rfl fun a w hS => st1 hS (asg rfl) rfl fun a w hS => wpList_nil <| then_n <| wp_seq <| wp_region_list <| st1 hS (mv rfl) rfl fun a w hS => st1 hS (mv rfl) rfl fun a w hS => st1 hS (mv rfl) rfl fun a w hS => ?_
   obtain ⟨hk649, hM⟩ := wp_chk hM
   refine st1 hS (ixV rfl rfl Try.runUnderlying22 Try.sizeOf3 hr644.wk (fun _ => rfl) rfl hk649) rfl fun a w hS => st1 hS (ldV0 rfl hr644.wk (fun _ => rfl) hk649 rfl Try.isAgg3) rfl fun a w hS => s_callV hS rfl rfl Try.call31 (huff_Lengths_1_c hG K (rd s641 v646) (hS.st.part 0 [] (by kernel_rfl)) (wp_bind hM) (fun x653 w hM  hst => s_back hS.ev hst.appF rfl fun hS => ?_))
   replace hS : Ss _ _ _ H [] F _ _ := hS
   refine wpList_nil <| then_n <| s_cond hS rfl hM (fun hb654 hM => ?_) (fun hb654 hM => ?_)
   ·refine wp_seq ?_
    refine wp_region_list <| st1 hS (mv rfl) rfl fun a w hS => st1 hS (asg rfl) rfl fun a w hS => wpList_nil <| then_n <| wp_ret <| blk_ret (then_ret (then_ret (blk_ret (then_ret ?_))))
    exact s_ret (rs := [4]) hS rfl rfl (hret v646 w (wp_ok hM) (hS.st.pick [] (by kernel_rfl)))
   ·refine wp_skip ?_
    refine blk_n (then_n ?_)
    refine wp_region_list <| st1 hS (bin rfl rfl rfl) rfl fun a w hS => st1 hS (mv rfl) rfl fun a w hS => wpList_nil <| then_n ?_
    exact hJ655 _ _ ⟨(w64 (v646 + (1 : Int))), hS.to [] (by kernel_rfl) ⟨rfl, rfl, rfl, rfl, trivial⟩, hM⟩
  ·refine wp_exit ?_
   refine then_ex (then_ex (blk_same (then_n ?_)))
   refine wp_seq <| wp_region_list <| st1 hS (asg rfl) rfl fun a w hS => wpList_nil <| then_n <| wp_ret ?_
   exact s_ret (rs := [4]) hS rfl rfl (hret (-1 : Int) w (wp_ok hM) (hS.st.pick [] (by kernel_rfl)))

theorem slices_ContainsFunc___int_int__5d67_c {H : Imm} {F : List Frag} {w : World} {R : Ending → World → Prop} {kr : Bool → Prop} {kp : Value → Prop} (hG : Gl H) (K : Nat) (s636 : List Int) (A637 : Option Addr) (c638 : Nat) (hr639 : Rdl H [] F (ci .i64) A637 s636) (hc640 : s636.length ≤ c638)
    (hS : St w H [] F) (hm : (slices_ContainsFunc___int_int__5d67.m K s636).wp kr kp)
    (hret : ∀ (x659 : Bool) (w : World), kr x659 → St w H [] F → R (.returned (.bool x659)) w) :
    Calls Try.prog 30 ⟨[.slice A637 s636.length c638, fnv 31 [] []]⟩ w R := by
 refine enter Try.func30 rfl Try.ntmps30 rfl hS fun a w hS => ?_
 have hM := hm; clear hm
 rw [slices_ContainsFunc___int_int__5d67.m] at hM
 refine wp_seq <| wp_region_list <| st1 hS (asg rfl) rfl fun a w hS => wpList_nil <| then_n <| wp_seq <| wp_region_list <| st1 hS (mv rfl) rfl fun a w hS => st1 hS (mv rfl) rfl fun a w hS => s_call hS rfl Try.call37 (slices_IndexFunc___int_int__5d67_c hG K s636 A637 c638 (hr639.app _) hc640 (hS.st.part 0 [] (by kernel_rfl)) (wp_bind hM) (fun x657 w hM  hst => s_back hS.ev hst.appF rfl fun hS => ?_))
 replace hS : Ss _ _ _ H [] F _ _ := hS
 refine st1 hS (bin rfl rfl rfl) rfl fun a w hS => st1x (v := Value.bool) (x0 := (decide (x657 ≥ (0 : Int)))) hS (asg rfl) rfl fun v658 a w hz hS => ?_
 have hM := lt_to hz hM; clear hz
 refine wpList_nil <| then_n <| wp_ret ?_
 exact s_ret (rs := [4]) hS rfl rfl (hret v658 w (wp_ok hM) (hS.st.pick [] (by kernel_rfl)))

def R_huff_packet (p : Frag) (x : T_huff_packet) (vs : List Value) : Prop :=
  ∃ (A0 : Option Addr) (c0 : Nat), vs = [.int .i64 x.often_, .slice A0 x.symbols_.length c0] ∧ Pl p (ci .i64) A0 x.symbols_ ∧ x.symbols_.length ≤ c0
theorem R_huff_packet.mono {p p' : Frag} (hs : ∀ q ∈ p, q ∈ p') {x : T_huff_packet} {vs : List Value} (h : R_huff_packet p x vs) : R_huff_packet p' x vs := by
  obtain ⟨A0, c0, h0, h1, h2⟩ := h
  exact ⟨A0, c0, h0, h1.mono hs, h2⟩

theorem cmp_isNaN_int__c {H : Imm} {F : List Frag} {w : World} {R : Ending → World → Prop} {kr : Bool → Prop} {kp : Value → Prop} (hG : Gl H) (K : Nat) (x859 : Int)
    (hS : St w H [] F) (hm : (cmp_isNaN_int_.m K x859).wp kr kp)
    (hret : ∀ (x861 : Bool) (w : World), kr x861 → St w H [] F → R (.returned (.bool x861)) w) :
    Calls Try.prog 39 ⟨[.int .i64 x859]⟩ w R := by
 refine enter Try.func39 rfl Try.ntmps39 rfl hS fun a w hS => ?_
 have hM := hm; clear hm
 rw [cmp_isNaN_int_.m] at hM
 refine wp_seq <| wp_region_list <| st1 hS (asg rfl) rfl fun a w hS => wpList_nil <| then_n <| wp_seq <| wp_region_list <| st1 hS (mv rfl) rfl fun a w hS => st1 hS (mv rfl) rfl fun a w hS => st1 hS (bin rfl rfl rfl) rfl fun a w hS => st1x (v := Value.bool) (x0 := (x859 != x859)) hS (asg rfl) rfl fun v860 a w hz hS => ?_
 have hM := lt_to hz hM; clear hz
 refine wpList_nil <| then_n <| wp_ret ?_
 exact s_ret (rs := [2]) hS rfl rfl (hret v860 w (wp_ok hM) (hS.st.pick [] (by kernel_rfl)))

theorem cmp_Compare_int__c {H : Imm} {F : List Frag} {w : World} {R : Ending → World → Prop} {kr : Int → Prop} {kp : Value → Prop} (hG : Gl H) (K : Nat) (x857 : Int) (y858 : Int)
    (hS : St w H [] F) (hm : (cmp_Compare_int_.m K x857 y858).wp kr kp)
    (hret : ∀ (x869 : Int) (w : World), kr x869 → St w H [] F → R (.returned (.int .i64 x869)) w) :
    Calls Try.prog 34 ⟨[.int .i64 x857, .int .i64 y858]⟩ w R := by
 refine enter Try.func34 rfl Try.ntmps34 rfl hS fun a w hS => ?_
 have hM := hm; clear hm
 rw [cmp_Compare_int_.m] at hM
 refine wp_seq <| wp_region_list <| st1 hS (asg rfl) rfl fun a w hS => wpList_nil <| then_n <| wp_seq <| wp_region_list <| st1 hS (mv rfl) rfl fun a w hS => s_call hS rfl Try.call39 (cmp_isNaN_int__c hG K x857 (hS.st.part 0 [] (by kernel_rfl)) (wp_bind hM) (fun x862 w hM  hst => s_back hS.ev hst.appF rfl fun hS => ?_))
 replace hS : Ss _ _ _ H [] F _ _ := hS
 refine st1 hS (asg rfl) rfl fun a w hS => wpList_nil <| then_n <| wp_seq <| wp_region_list <| st1 hS (mv rfl) rfl fun a w hS => s_call hS rfl Try.call39 (cmp_isNaN_int__c hG K y858 (hS.st.part 0 [] (by kernel_rfl)) (wp_bind hM) (fun x863 w hM  hst => s_back hS.ev hst.appF rfl fun hS => ?_))
 replace hS : Ss _ _ _ H [] F _ _ := hS
 refine st1 hS (asg rfl) rfl fun a w hS => wpList_nil <| then_n <| wp_seq <| wp_seq <| wp_region_list <| st1 hS (mv rfl) rfl fun a w hS => wpList_nil <| then_n <| s_cond hS rfl hM (fun hb864 hM => ?_) (fun hb864 hM => ?_)
 ·refine wp_seq ?_
  refine wp_seq <| wp_region_list <| st1 hS (mv rfl) rfl fun a w hS => wpList_nil <| then_n <| s_cond hS rfl hM (fun hb865 hM => ?_) (fun hb865 hM => ?_)
  ·refine wp_seq ?_
   refine wp_region_list <| st1 hS (asg rfl) rfl fun a w hS => wpList_nil <| then_n <| wp_ret <| then_ret (then_ret ?_)
   exact s_ret (rs := [4]) hS rfl rfl (hret (0 : Int) w (wp_ok hM) (hS.st.pick [] (by kernel_rfl)))
  ·refine wp_skip ?_
   refine then_n <| wp_seq <| wp_region_list <| st1 hS (asg rfl) rfl fun a w hS => wpList_nil <| then_n <| wp_ret <| then_ret ?_
   exact s_ret (rs := [4]) hS rfl rfl (hret (-1 : Int) w (wp_ok hM) (hS.st.pick [] (by kernel_rfl)))
 ·refine wp_skip ?_
  refine then_n <| wp_seq <| wp_seq <| wp_region_list <| st1 hS (mv rfl) rfl fun a w hS => wpList_nil <| then_n <| s_cond hS rfl hM (fun hb866 hM => ?_) (fun hb866 hM => ?_)
  ·refine wp_seq ?_
   refine wp_region_list <| st1 hS (asg rfl) rfl fun a w hS => wpList_nil <| then_n <| wp_ret <| then_ret ?_
   exact s_ret (rs := [4]) hS rfl rfl (hret (1 : Int) w (wp_ok hM) (hS.st.pick [] (by kernel_rfl)))
  ·refine wp_skip ?_
   refine then_n <| wp_seq <| wp_seq <| wp_region_list <| st1 hS (mv rfl) rfl fun a w hS => st1 hS (mv rfl) rfl fun a w hS => st1 hS (bin rfl rfl rfl) rfl fun a w hS => wpList_nil <| then_n <| s_cond hS rfl hM (fun hb867 hM => ?_) (fun hb867 hM => ?_)
   ·refine wp_seq ?_
    refine wp_region_list <| st1 hS (asg rfl) rfl fun a w hS => wpList_nil <| then_n <| wp_ret <| then_ret ?_
    exact s_ret (rs := [4]) hS rfl rfl (hret (-1 : Int) w (wp_ok hM) (hS.st.pick [] (by kernel_rfl)))
   ·refine wp_skip ?_
    refine then_n <| wp_seq <| wp_seq <| wp_region_list <| st1 hS (mv rfl) rfl fun a w hS => st1 hS (mv rfl) rfl fun a w hS => st1 hS (bin rfl rfl rfl) rfl fun a w hS => wpList_nil <| then_n <| s_cond hS rfl hM (fun hb868 hM => ?_) (fun hb868 hM => ?_)
    ·refine wp_seq ?_
     refine wp_region_list <| st1 hS (asg rfl) rfl fun a w hS => wpList_nil <| then_n <| wp_ret <| then_ret ?_
     exact s_ret (rs := [4]) hS rfl rfl (hret (1 : Int) w (wp_ok hM) (hS.st.pick [] (by kernel_rfl)))
    ·refine wp_skip ?_
     refine then_n <| wp_seq <| wp_region_list <| st1 hS (asg rfl) rfl fun a w hS => wpList_nil <| then_n <| wp_ret ?_
     exact s_ret (rs := [4]) hS rfl rfl (hret (0 : Int) w (wp_ok hM) (hS.st.pick [] (by kernel_rfl)))

theorem huff_Lengths_2_c {H : Imm} {F : List Frag} {w : World} {R : Ending → World → Prop} {kr : Int → Prop} {kp : Value → Prop} (hG : Gl H) (K : Nat) (x841 : T_huff_packet) (y846 : T_huff_packet) (A842 : Option Addr) (c843 : Nat) (A847 : Option Addr) (c848 : Nat) (hr844 : Rdl H [] F (ci .i64) A842 x841.symbols_) (hc845 : x841.symbols_.length ≤ c843) (hr849 : Rdl H [] F (ci .i64) A847 y846.symbols_) (hc850 : y846.symbols_.length ≤ c848)
    (hS : St w H [] F) (hm : (huff_Lengths_2.m K x841 y846).wp kr kp)
    (hret : ∀ (x871 : Int) (w : World), kr x871 → St w H [] F → R (.returned (.int .i64 x871)) w) :
    Calls Try.prog 33 ⟨[.agg ⟨[.int .i64 x841.often_, .slice A842 x841.symbols_.length c843]⟩, .agg ⟨[.int .i64 y846.often_, .slice A847 y846.symbols_.length c848]⟩]⟩ w R := by
 refine enter Try.func33 rfl Try.ntmps33 rfl hS fun a w hS => ?_
 have hM := hm; clear hm
 rw [huff_Lengths_2.m] at hM
 refine wp_seq <| wp_region_list <| bx ([.int .i64 x841.often_, .slice A842 x841.symbols_.length c843]) hS rfl rfl rfl fun w b851 f852 hB853 hS => bx ([.int .i64 y846.often_, .slice A847 y846.symbols_.length c848]) hS rfl rfl rfl fun w b854 f855 hB856 hS => st1 hS (asg rfl) rfl fun a w hS => wpList_nil <| then_n <| wp_seq <| wp_region_list <| st1 hS (fad rfl Try.runUnderlying70 rfl Try.sizeOf3 rfl) rfl fun a w hS => st1 hS (ldb 1 rfl hB853 rfl rfl Try.isAgg3) rfl fun a w hS => st1 hS (fad rfl Try.runUnderlying70 rfl Try.sizeOf3 rfl) rfl fun a w hS => st1 hS (ldb 0 rfl hB856 rfl rfl Try.isAgg3) rfl fun a w hS => s_call hS rfl Try.call34 (cmp_Compare_int__c hG K x841.often_ y846.often_ (hS.st.part 0 [0, 1] (by kernel_rfl)) (wp_bind hM) (fun x870 w hM  hst => s_back hS.ev hst.appF rfl fun hS => ?_))
 replace hS : Ss _ _ _ H [f855, f852] F _ _ := hS
 refine st1 hS (asg rfl) rfl fun a w hS => wpList_nil <| then_n <| wp_ret ?_
 exact s_ret (rs := [4]) hS rfl rfl (hret x870 w (wp_ok hM) (hS.st.pick [] (by kernel_rfl)))

theorem slices_insertionSortCmpFunc_huff_packet__b6e1_5de2_c {H : Imm} {F : List Frag} {w : World} {R : Ending → World → Prop} {kr : (List T_huff_packet) → Prop} {kp : Value → Prop} (hG : Gl H) (K : Nat) (data808 : List T_huff_packet) (a_816 : Int) (b_817 : Int) (p809 : Frag) (A810 : Option Addr) (c811 : Nat) (rw812 : List (Row 2)) (f814 : Frag) (hr813 : RelL (R_huff_packet p809) data808 rw812) (hV815 : Vec 70 (Row.v (sz := 2)) 2 A810 rw812 c811 f814)
    (hS : St w H [p809, f814] F) (hm : (slices_insertionSortCmpFunc_huff_packet__b6e1_5de2.m K data808 a_816 b_817).wp kr kp)
    (hret : ∀ (rw1144 : List (Row 2)) (data1145 : (List T_huff_packet)) (f1146 : Frag) (w : World), kr data1145 → (Vec 70 (Row.v (sz := 2)) 2 A810 rw1144 c811 f1146) → (RelL (R_huff_packet p809) data1145 rw1144) → (rw1144.length = rw812.length) → St w H [p809, f1146] F → R (.returned (.tuple ⟨[]⟩)) w) :
    Calls Try.prog 43 ⟨[.slice A810 rw812.length c811, .int .i64 a_816, .int .i64 b_817, fnv 33 [] []]⟩ w R := by
 refine enter Try.func43 rfl Try.ntmps43 rfl hS fun a w hS => ?_
 have hM := hm; clear hm
 rw [slices_insertionSortCmpFunc_huff_packet__b6e1_5de2.m] at hM
 have hs818 : ∀ q ∈ p809, q ∈ p809 := fun _ h => h
 have hz819 : rw812.length = rw812.length := rfl
 refine wp_seq <| wp_region_list <| st1 hS (mv rfl) rfl fun a w hS => st1 hS (bin rfl rfl rfl) rfl fun a w hS => st1x (v := Value.int .i64) (x0 := (w64 (a_816 + (1 : Int)))) hS (asg rfl) rfl fun i820 a w hz hS => ?_
 have hM := lt_to hz hM; clear hz
 refine wpList_nil <| then_n <| wp_block <| s_loopJ (fun k1005 a w => ∃ (rw998 : List (Row 2)) (data999 : (List T_huff_packet)) (f1000 : Frag) (i1004 : Int), Ss 53 [] [(0, .slice A810 rw998.length c811), (1, .int .i64 a_816), (2, .int .i64 b_817), (3, fnv 33 [] []), (8, .int .i64 i1004)] H [p809, f1000] F a w ∧ (Vec 70 (Row.v (sz := 2)) 2 A810 rw998 c811 f1000) ∧ (RelL (R_huff_packet p809) data999 rw998) ∧ (rw998.length = rw812.length) ∧ (slices_insertionSortCmpFunc_huff_packet__b6e1_5de2.l1 K a_816 b_817 k1005 data999 i1004).wp kr kp) K ?_ ?_ ?_
 ·exact ⟨rw812, data808, f814, i820, hS.to [0, 1] (by kernel_rfl) ⟨rfl, rfl, rfl, rfl, rfl, trivial⟩, hV815, hr813, hz819, hM⟩
 ·intro a w hI; obtain ⟨_, _, _, _, _, _, _, _, hM⟩ := hI; exact wp_fail hM
 ·intro k1005 a w hI J1143 hJ1143
  obtain ⟨rw998, data999, f1000, i1004, hS, hV1001, hr1002, hz1003, hM⟩ := hI
  rw [slices_insertionSortCmpFunc_huff_packet__b6e1_5de2.l1] at hM
  refine wp_seq <| wp_seq <| wp_region_list <| st1 hS (mv rfl) rfl fun a w hS => st1 hS (mv rfl) rfl fun a w hS => st1 hS (bin rfl rfl rfl) rfl fun a w hS => wpList_nil <| then_n <| s_cond hS rfl hM (fun hb1006 hM => ?_) (fun hb1006 hM => ?_)
  ·refine wp_skip ?_
   refine then_n <| wp_seq <| wp_block <| wp_seq <| wp_region_list <| st1 hS (mv rfl) rfl fun a w hS => st1 hS (asg rfl) rfl fun a w hS => wpList_nil <| then_n <| wp_block <| s_loopJ (fun k1082 a w => ∃ (rw1075 : List (Row 2)) (data1076 : (List T_huff_packet)) (f1077 : Frag) (j1081 : Int), Ss 53 [] [(0, .slice A810 rw1075.length c811), (1, .int .i64 a_816), (2, .int .i64 b_817), (3, fnv 33 [] []), (8, .int .i64 i1004), (9, .int .i64 j1081)] H [p809, f1077] F a w ∧ (Vec 70 (Row.v (sz := 2)) 2 A810 rw1075 c811 f1077) ∧ (RelL (R_huff_packet p809) data1076 rw1075) ∧ (rw1075.length = rw812.length) ∧ (slices_insertionSortCmpFunc_huff_packet__b6e1_5de2.l2 K (slices_insertionSortCmpFunc_huff_packet__b6e1_5de2.l1 K a_816 b_817 k1005) a_816 i1004 k1082 data1076 j1081).wp kr kp) K ?_ ?_ ?_
   ·exact ⟨rw998, data999, f1000, i1004, hS.to [0, 1] (by kernel_rfl) ⟨rfl, rfl, rfl, rfl, rfl, rfl, trivial⟩, hV1001, hr1002, hz1003, hM⟩
   ·intro a w hI; obtain ⟨_, _, _, _, _, _, _, _, hM⟩ := hI; exact wp_fail hM
   ·intro k1082 a w hI J1142 hJ1142
    obtain ⟨rw1075, data1076, f1077, j1081, hS, hV1078, hr1079, hz1080, hM⟩ := hI
    rw [slices_insertionSortCmpFunc_huff_packet__b6e1_5de2.l2] at hM
    refine wp_seq <| seq_joinJ (fun a w => ∃ (v1099 : Bool), Ss 53 [] [(0, .slice A810 rw1075.length c811), (1, .int .i64 a_816), (2, .int .i64 b_817), (3, fnv 33 [] []), (8, .int .i64 i1004), (9, .int .i64 j1081), (34, .bool v1099)] H [p809, f1077] F a w ∧ (slices_insertionSortCmpFunc_huff_packet__b6e1_5de2.j3 K (slices_insertionSortCmpFunc_huff_packet__b6e1_5de2.l1 K a_816 b_817 k1005) (slices_insertionSortCmpFunc_huff_packet__b6e1_5de2.l2 K (slices_insertionSortCmpFunc_huff_packet__b6e1_5de2.l1 K a_816 b_817 k1005) a_816 i1004 k1082) i1004 data1076 j1081 v1099).wp kr kp) (fun J1100 hJ1100 => ?_) ?_
    ·refine ifB (b := (decide (j1081 > a_816))) hM (fun hb1083 hM => ?_) (fun hb1083 hM => ?_)
     ·obtain ⟨hk1085, hM⟩ := wp_chk hM
      obtain ⟨A1086, c1087, hw1090, hp1088, hc1089⟩ := hr1079.get hk1085
      obtain ⟨hk1092, hM⟩ := wp_chk hM
      obtain ⟨A1093, c1094, hw1097, hp1095, hc1096⟩ := hr1079.get hk1092
      refine draw_begin (vals := [some (.int .i64 j1081), some (.int .i64 a_816), some (.bool true), some (.bool true), some (fnv 33 [] []), some (.slice A810 rw1075.length c811), some (.int .i64 j1081), some (slp A810 (Int.toNat j1081 * 2)), some (.agg ⟨[.int .i64 ((rd data1076 j1081).often_), .slice A1086 ((rd data1076 j1081).symbols_).length c1087]⟩), some (.slice A810 rw1075.length c811), some (.int .i64 j1081), some (.int .i64 (w64 (j1081 - (1 : Int)))), some (slp A810 (Int.toNat (w64 (j1081 - (1 : Int))) * 2)), some (.agg ⟨[.int .i64 ((rd data1076 (w64 (j1081 - (1 : Int)))).often_), .slice A1093 ((rd data1076 (w64 (j1081 - (1 : Int)))).symbols_).length c1094]⟩), none, none, none]) hS mixed rfl ?_
      intro l w ho hcl hA hst
      refine phq hA hst ho hcl navail nmust 14 [0, 1, 2, 3, 4, 5, 6, 7, 8, 9, 10, 11, 12, 13] rfl rfl rfl rfl rfl (by exact ⟨nR rfl rfl rfl rfl rfl (by exact ovE (mv rfl) rfl), nR rfl rfl rfl rfl rfl (by exact ovE (mv rfl) rfl), nR rfl rfl rfl rfl rfl (by exact ovE (bin rfl rfl rfl) (congrArg Value.bool hb1083)), nR rfl rfl rfl rfl rfl (by exact ovE (mv rfl) rfl), nW rfl rfl rfl rfl rfl rfl rfl rfl (by exact ovE (mv rfl) rfl), nW rfl rfl rfl rfl rfl rfl rfl rfl (by exact ovE (mv rfl) rfl), nW rfl rfl rfl rfl rfl rfl rfl rfl (by exact ovE (mv rfl) rfl), nW rfl rfl rfl rfl rfl rfl rfl rfl (by exact ovE (ixV rfl rfl Try.runUnderlying68 Try.sizeOf70 (hV1078.rd (i := 1) rfl) Row.len rfl (hr1079.inb hk1085)) rfl), nW rfl rfl rfl rfl rfl rfl rfl rfl (by exact ovE (ovE (ldVA rfl (hV1078.rd (i := 1) rfl) Row.len (hr1079.inb hk1085) Try.isAgg70 Try.sizeOf70 rfl) (congrArg (fun l => Value.agg ⟨l⟩) hw1090)) rfl), nW rfl rfl rfl rfl rfl rfl rfl rfl (by exact ovE (mv rfl) rfl), nW rfl rfl rfl rfl rfl rfl rfl rfl (by exact ovE (mv rfl) rfl), nW rfl rfl rfl rfl rfl rfl rfl rfl (by exact ovE (bin rfl rfl rfl) rfl), nW rfl rfl rfl rfl rfl rfl rfl rfl (by exact ovE (ixV rfl rfl Try.runUnderlying68 Try.sizeOf70 (hV1078.rd (i := 1) rfl) Row.len rfl (hr1079.inb hk1092)) rfl), nW rfl rfl rfl rfl rfl rfl rfl rfl (by exact ovE (ovE (ldVA rfl (hV1078.rd (i := 1) rfl) Row.len (hr1079.inb hk1092) Try.isAgg70 Try.sizeOf70 rfl) (congrArg (fun l => Value.agg ⟨l⟩) hw1097)) rfl), trivial⟩) fun D l a w ho hcl hav hpre hm hE hk hA hst => ?_
      have hS := (Ss.mk hE hst).env2 (e' := [(21, .bool true), (22, fnv 33 [] []), (26, .agg ⟨[.int .i64 ((rd data1076 j1081).often_), .slice A1086 ((rd data1076 j1081).symbols_).length c1087]⟩), (31, .agg ⟨[.int .i64 ((rd data1076 (w64 (j1081 - (1 : Int)))).often_), .slice A1093 ((rd data1076 (w64 (j1081 - (1 : Int)))).symbols_).length c1094]⟩)]) ⟨rfl, rfl, rfl, rfl, trivial⟩
      refine op_of_nth rfl <| unguard hS rfl rfl rfl rfl <| s_callV hS rfl rfl Try.call33 (huff_Lengths_2_c hG K (T_huff_packet.mk ((rd data1076 j1081).often_) ((rd data1076 j1081).symbols_)) (T_huff_packet.mk ((rd data1076 (w64 (j1081 - (1 : Int)))).often_) ((rd data1076 (w64 (j1081 - (1 : Int)))).symbols_)) A1086 c1087 A1093 c1094 (hp1088.rdF (i := 0) rfl) hc1089 (hp1095.rdF (i := 0) rfl) hc1096 (hS.st.part 0 [0, 1] (by kernel_rfl)) (wp_bind hM) (fun x1098 w hM  hst => s_back hS.ev hst.appF rfl fun hS => ?_))
      replace hS : Ss _ _ _ H [p809, f1077] F _ _ := hS
      refine wpList_nil (then_n ?_)
      replace hst := hS.st
      obtain ⟨hcl, hmust, hav2, hA⟩ := dn (vals' := [some (.int .i64 j1081), some (.int .i64 a_816), some (.bool true), some (.bool true), some (fnv 33 [] []), some (.slice A810 rw1075.length c811), some (.int .i64 j1081), some (slp A810 (Int.toNat j1081 * 2)), some (.agg ⟨[.int .i64 ((rd data1076 j1081).often_), .slice A1086 ((rd data1076 j1081).symbols_).length c1087]⟩), some (.slice A810 rw1075.length c811), some (.int .i64 j1081), some (.int .i64 (w64 (j1081 - (1 : Int)))), some (slp A810 (Int.toNat (w64 (j1081 - (1 : Int))) * 2)), some (.agg ⟨[.int .i64 ((rd data1076 (w64 (j1081 - (1 : Int)))).often_), .slice A1093 ((rd data1076 (w64 (j1081 - (1 : Int)))).symbols_).length c1094]⟩), some (.int .i64 x1098), some (.bool (decide (x1098 < (0 : Int)))), some (.bool (decide (x1098 < (0 : Int))))]) 14 [(3, 14), (4, 14), (8, 14), (13, 14), (2, 3), (7, 8), (12, 13), (0, 2), (1, 2), (5, 7), (6, 7), (9, 12), (11, 12), (10, 11)] hA hcl hav hm hpre hk rfl rfl rfl rfl rfl rfl rfl
      clear hm hav
      refine phqE hA hst ho hcl hmust [15, 16] rfl rfl rfl (by exact ⟨nW rfl rfl rfl rfl rfl rfl rfl rfl (by exact ovE (bin rfl rfl rfl) rfl), nR rfl rfl rfl rfl rfl (by exact ovE (pk rfl rfl rfl) rfl), trivial⟩) fun a w hS => ?_
      replace hS := hS.env2 (e' := [(0, .slice A810 rw1075.length c811), (1, .int .i64 a_816), (2, .int .i64 b_817), (3, fnv 33 [] []), (8, .int .i64 i1004), (9, .int .i64 j1081), (34, .bool (decide (x1098 < (0 : Int))))]) ⟨rfl, rfl, rfl, rfl, rfl, rfl, rfl, trivial⟩
      refine then_n ?_
      exact hJ1100 _ _ ⟨(decide (x1098 < (0 : Int))), hS.to [0, 1] (by kernel_rfl) ⟨rfl, rfl, rfl, rfl, rfl, rfl, rfl, trivial⟩, hM⟩
     ·refine draw_begin (vals := [some (.int .i64 j1081), some (.int .i64 a_816), some (.bool false), some (.bool false), some (undef), some (undef), some (undef), some (undef), some (undef), some (undef), some (undef), some (undef), some (undef), some (undef), some (undef), some (undef), some (.bool false)]) hS mixed rfl ?_
      intro l w ho hcl hA hst
      refine phqE hA hst ho hcl nmust [0, 1, 2, 3, 4, 5, 6, 7, 8, 9, 10, 11, 12, 13, 14, 15, 16] rfl rfl rfl (by exact ⟨nR rfl rfl rfl rfl rfl (by exact ovE (mv rfl) rfl), nR rfl rfl rfl rfl rfl (by exact ovE (mv rfl) rfl), nR rfl rfl rfl rfl rfl (by exact ovE (bin rfl rfl rfl) (congrArg Value.bool hb1083)), nR rfl rfl rfl rfl rfl (by exact ovE (mv rfl) rfl), nS rfl rfl rfl rfl rfl rfl rfl rfl rfl, nS rfl rfl rfl rfl rfl rfl rfl rfl rfl, nS rfl rfl rfl rfl rfl rfl rfl rfl rfl, nS rfl rfl rfl rfl rfl rfl rfl rfl rfl, nS rfl rfl rfl rfl rfl rfl rfl rfl rfl, nS rfl rfl rfl rfl rfl rfl rfl rfl rfl, nS rfl rfl rfl rfl rfl rfl rfl rfl rfl, nS rfl rfl rfl rfl rfl rfl rfl rfl rfl, nS rfl rfl rfl rfl rfl rfl rfl rfl rfl, nS rfl rfl rfl rfl rfl rfl rfl rfl rfl, nS rfl rfl rfl rfl rfl rfl rfl rfl rfl, nS rfl rfl rfl rfl rfl rfl rfl rfl rfl, nR rfl rfl rfl rfl rfl (by exact ovE (pk rfl rfl rfl) rfl), trivial⟩) fun a w hS => ?_
      replace hS := hS.env2 (e' := [(0, .slice A810 rw1075.length c811), (1, .int .i64 a_816), (2, .int .i64 b_817), (3, fnv 33 [] []), (8, .int .i64 i1004), (9, .int .i64 j1081), (34, .bool false)]) ⟨rfl, rfl, rfl, rfl, rfl, rfl, rfl, trivial⟩
      refine then_n ?_
      exact hJ1100 _ _ ⟨false, hS.to [0, 1] (by kernel_rfl) ⟨rfl, rfl, rfl, rfl, rfl, rfl, rfl, trivial⟩, hM⟩
    ·intro a w hI
     obtain ⟨v1099, hS, hM⟩ := hI
     rw [slices_insertionSortCmpFunc_huff_packet__b6e1_5de2.j3] at hM
     refine s_cond hS rfl hM (fun hb1101 hM => ?_) (fun hb1101 hM => ?_)
     ·refine wp_skip ?_
      refine then_n <| wp_seq <| wp_block ?_
      obtain ⟨hk1104, hM⟩ := wp_chk hM
      obtain ⟨A1105, c1106, hw1109, hp1107, hc1108⟩ := hr1079.get hk1104
      obtain ⟨hk1111, hM⟩ := wp_chk hM
      obtain ⟨A1112, c1113, hw1116, hp1114, hc1115⟩ := hr1079.get hk1111
      refine draw_begin (vals := [some (.slice A810 rw1075.length c811), some (.int .i64 j1081), some (.slice A810 rw1075.length c811), some (.int .i64 j1081), some (.int .i64 (w64 (j1081 - (1 : Int)))), some (.slice A810 rw1075.length c811), some (.int .i64 j1081), some (.int .i64 (w64 (j1081 - (1 : Int)))), some (slp A810 (Int.toNat (w64 (j1081 - (1 : Int))) * 2)), some (.agg ⟨[.int .i64 ((rd data1076 (w64 (j1081 - (1 : Int)))).often_), .slice A1105 ((rd data1076 (w64 (j1081 - (1 : Int)))).symbols_).length c1106]⟩), some (.slice A810 rw1075.length c811), some (.int .i64 j1081), some (slp A810 (Int.toNat j1081 * 2)), some (.agg ⟨[.int .i64 ((rd data1076 j1081).often_), .slice A1112 ((rd data1076 j1081).symbols_).length c1113]⟩), some (slp A810 (Int.toNat j1081 * 2)), none, none, none]) hS mixed rfl ?_
      intro l w ho hcl hA hst
      refine phq hA hst ho hcl navail nmust 15 [0, 1, 2, 3, 4, 5, 6, 7, 8, 9, 10, 11, 12, 13, 14] rfl rfl rfl rfl rfl (by exact ⟨nR rfl rfl rfl rfl rfl (by exact ovE (mv rfl) rfl), nR rfl rfl rfl rfl rfl (by exact ovE (mv rfl) rfl), nR rfl rfl rfl rfl rfl (by exact ovE (mv rfl) rfl), nR rfl rfl rfl rfl rfl (by exact ovE (mv rfl) rfl), nR rfl rfl rfl rfl rfl (by exact ovE (bin rfl rfl rfl) rfl), nR rfl rfl rfl rfl rfl (by exact ovE (mv rfl) rfl), nR rfl rfl rfl rfl rfl (by exact ovE (mv rfl) rfl), nR rfl rfl rfl rfl rfl (by exact ovE (bin rfl rfl rfl) rfl), nR rfl rfl rfl rfl rfl (by exact ovE (ixV rfl rfl Try.runUnderlying68 Try.sizeOf70 (hV1078.rd (i := 1) rfl) Row.len rfl (hr1079.inb hk1104)) rfl), nR rfl rfl rfl rfl rfl (by exact ovE (ovE (ldVA rfl (hV1078.rd (i := 1) rfl) Row.len (hr1079.inb hk1104) Try.isAgg70 Try.sizeOf70 rfl) (congrArg (fun l => Value.agg ⟨l⟩) hw1109)) rfl), nR rfl rfl rfl rfl rfl (by exact ovE (mv rfl) rfl), nR rfl rfl rfl rfl rfl (by exact ovE (mv rfl) rfl), nR rfl rfl rfl rfl rfl (by exact ovE (ixV rfl rfl Try.runUnderlying68 Try.sizeOf70 (hV1078.rd (i := 1) rfl) Row.len rfl (hr1079.inb hk1111)) rfl), nR rfl rfl rfl rfl rfl (by exact ovE (ovE (ldVA rfl (hV1078.rd (i := 1) rfl) Row.len (hr1079.inb hk1111) Try.isAgg70 Try.sizeOf70 rfl) (congrArg (fun l => Value.agg ⟨l⟩) hw1116)) rfl), nR rfl rfl rfl rfl rfl (by exact ovE (ixV rfl rfl Try.runUnderlying68 Try.sizeOf70 (hV1078.rd (i := 1) rfl) Row.len rfl (hr1079.inb hk1111)) rfl), trivial⟩) fun D l a w ho hcl hav hpre hm hE hk hA hst => ?_
      have hS := (Ss.mk hE hst).env2 (e' := [(46, .agg ⟨[.int .i64 ((rd data1076 (w64 (j1081 - (1 : Int)))).often_), .slice A1105 ((rd data1076 (w64 (j1081 - (1 : Int)))).symbols_).length c1106]⟩), (51, slp A810 (Int.toNat j1081 * 2))]) ⟨rfl, rfl, trivial⟩
      refine op_of_nth rfl <| stVR (i := j1081) (sz := 2) 1 (⟨[.int .i64 ((rd data1076 (w64 (j1081 - (1 : Int)))).often_), .slice A1105 ((rd data1076 (w64 (j1081 - (1 : Int)))).symbols_).length c1106], by simp, by simp [Value.oneCell']⟩ : Row 2) hS rfl rfl hV1078 rfl Try.sizeOf70 rfl (hr1079.inb hk1111) fun rw1123 w f1121 hz hV1122 hS => ?_
      obtain ⟨zs1124, hzm⟩ := nameE (data1076.set (Int.toNat j1081) (T_huff_packet.mk ((rd data1076 (w64 (j1081 - (1 : Int)))).often_) ((rd data1076 (w64 (j1081 - (1 : Int)))).symbols_)))
      replace hM := lt_to hzm hM
      have hr1125 := RelL.set (x := (T_huff_packet.mk ((rd data1076 (w64 (j1081 - (1 : Int)))).often_) ((rd data1076 (w64 (j1081 - (1 : Int)))).symbols_))) (r := (⟨[.int .i64 ((rd data1076 (w64 (j1081 - (1 : Int)))).often_), .slice A1105 ((rd data1076 (w64 (j1081 - (1 : Int)))).symbols_).length c1106], by simp, by simp [Value.oneCell']⟩ : Row 2)) (Int.toNat j1081) hr1079 (show R_huff_packet p809 _ _ from ⟨A1105, c1106, rfl, hp1107, hc1108⟩)
      have hz1126 : rw1123.length = rw1075.length := by rw [hz]; exact List.length_set ..
      rw [← hz, ← hzm] at hr1125; clear hz hzm
      have hz1127 := Eq.trans hz1126 hz1080
      refine wpList_nil (then_n ?_)
      replace hst := hS.st
      obtain ⟨hk1129, hM⟩ := wp_chk hM
      obtain ⟨hcl, hmust, hav2, hA⟩ := dnN (vals' := [some (.slice A810 rw1075.length c811), some (.int .i64 j1081), some (.slice A810 rw1075.length c811), some (.int .i64 j1081), some (.int .i64 (w64 (j1081 - (1 : Int)))), some (.slice A810 rw1075.length c811), some (.int .i64 j1081), some (.int .i64 (w64 (j1081 - (1 : Int)))), some (slp A810 (Int.toNat (w64 (j1081 - (1 : Int))) * 2)), some (.agg ⟨[.int .i64 ((rd data1076 (w64 (j1081 - (1 : Int)))).often_), .slice A1105 ((rd data1076 (w64 (j1081 - (1 : Int)))).symbols_).length c1106]⟩), some (.slice A810 rw1075.length c811), some (.int .i64 j1081), some (slp A810 (Int.toNat j1081 * 2)), some (.agg ⟨[.int .i64 ((rd data1076 j1081).often_), .slice A1112 ((rd data1076 j1081).symbols_).length c1113]⟩), some (slp A810 (Int.toNat j1081 * 2)), some undef, some (slp A810 (Int.toNat (w64 (j1081 - (1 : Int))) * 2)), none]) 15 [(0, 15), (1, 15), (5, 15), (6, 15), (7, 15), (8, 15), (9, 15), (13, 15), (14, 15), (12, 13), (10, 12), (11, 12)] hA hcl hav hm hpre rfl rfl rfl rfl rfl
      clear hm hav
      refine phq hA hst ho hcl hav2 hmust 17 [2, 3, 4, 16] rfl rfl rfl rfl rfl (by exact ⟨nR rfl rfl rfl rfl rfl (by exact ovE (mv rfl) rfl), nR rfl rfl rfl rfl rfl (by exact ovE (mv rfl) rfl), nR rfl rfl rfl rfl rfl (by exact ovE (bin rfl rfl rfl) rfl), nR rfl rfl rfl rfl rfl (by exact ovE (ixV (lenx hz1126 rfl) rfl Try.runUnderlying68 Try.sizeOf70 (hV1122.rd (i := 1) rfl) Row.len rfl (hr1125.inb hk1129)) rfl), trivial⟩) fun D l a w ho hcl hav hpre hm hE hk hA hst => ?_
      have hS := (Ss.mk hE hst).env2 (e' := [(50, .agg ⟨[.int .i64 ((rd data1076 j1081).often_), .slice A1112 ((rd data1076 j1081).symbols_).length c1113]⟩), (52, slp A810 (Int.toNat (w64 (j1081 - (1 : Int))) * 2))]) ⟨rfl, rfl, trivial⟩
      refine op_of_nth rfl <| stVR (i := (w64 (j1081 - (1 : Int)))) (sz := 2) 1 (⟨[.int .i64 ((rd data1076 j1081).often_), .slice A1112 ((rd data1076 j1081).symbols_).length c1113], by simp, by simp [Value.oneCell']⟩ : Row 2) hS rfl rfl hV1122 rfl Try.sizeOf70 rfl (hr1125.inb hk1129) fun rw1136 w f1134 hz hV1135 hS => ?_
      obtain ⟨zs1137, hzm⟩ := nameE (zs1124.set (Int.toNat (w64 (j1081 - (1 : Int)))) (T_huff_packet.mk ((rd data1076 j1081).often_) ((rd data1076 j1081).symbols_)))
      replace hM := lt_to hzm hM
      have hr1138 := RelL.set (x := (T_huff_packet.mk ((rd data1076 j1081).often_) ((rd data1076 j1081).symbols_))) (r := (⟨[.int .i64 ((rd data1076 j1081).often_), .slice A1112 ((rd data1076 j1081).symbols_).length c1113], by simp, by simp [Value.oneCell']⟩ : Row 2)) (Int.toNat (w64 (j1081 - (1 : Int)))) hr1125 (show R_huff_packet p809 _ _ from ⟨A1112, c1113, rfl, hp1114, hc1115⟩)
      have hz1139 : rw1136.length = rw1123.length := by rw [hz]; exact List.length_set ..
      rw [← hz, ← hzm] at hr1138; clear hz hzm
      have hz1140 := Eq.trans hz1139 hz1127
      refine wpList_nil (then_n ?_)
      replace hst := hS.st
      obtain ⟨hcl, hmust, hav2, hA⟩ := dnN (vals' := [some (.slice A810 rw1075.length c811), some (.int .i64 j1081), some (.slice A810 rw1075.length c811), some (.int .i64 j1081), some (.int .i64 (w64 (j1081 - (1 : Int)))), some (.slice A810 rw1075.length c811), some (.int .i64 j1081), some (.int .i64 (w64 (j1081 - (1 : Int)))), some (slp A810 (Int.toNat (w64 (j1081 - (1 : Int))) * 2)), some (.agg ⟨[.int .i64 ((rd data1076 (w64 (j1081 - (1 : Int)))).often_), .slice A1105 ((rd data1076 (w64 (j1081 - (1 : Int)))).symbols_).length c1106]⟩), some (.slice A810 rw1075.length c811), some (.int .i64 j1081), some (slp A810 (Int.toNat j1081 * 2)), some (.agg ⟨[.int .i64 ((rd data1076 j1081).often_), .slice A1112 ((rd data1076 j1081).symbols_).length c1113]⟩), some (slp A810 (Int.toNat j1081 * 2)), some undef, some (slp A810 (Int.toNat (w64 (j1081 - (1 : Int))) * 2)), some undef]) 17 [(0, 17), (1, 17), (2, 17), (3, 17), (4, 17), (5, 17), (6, 17), (7, 17), (8, 17), (9, 17), (10, 17), (11, 17), (12, 17), (13, 17), (14, 17), (15, 17), (16, 17)] hA hcl hav hm hpre rfl rfl rfl rfl rfl
      clear hm hav
      refine phqE hA hst ho hcl hmust [] rfl rfl rfl trivial fun a w hS => ?_
      replace hS := hS.env2 (e' := [(0, .slice A810 rw1136.length c811), (1, .int .i64 a_816), (2, .int .i64 b_817), (3, fnv 33 [] []), (8, .int .i64 i1004), (9, .int .i64 j1081)]) ⟨(relk (u := .slice A810 rw1075.length c811) rfl (by rw [hz1139, hz1126])), rfl, rfl, rfl, rfl, rfl, trivial⟩
      refine blk_n (then_n ?_)
      refine wp_region_list <| st1 hS (mv rfl) rfl fun a w hS => st1 hS (bin rfl rfl rfl) rfl fun a w hS => st1x (v := Value.int .i64) (x0 := (w64 (j1081 - (1 : Int)))) hS (asg rfl) rfl fun j1141 a w hz hS => ?_
      have hM := lt_to hz hM; clear hz
      refine wpList_nil <| then_n ?_
      exact hJ1142 _ _ ⟨rw1136, zs1137, f1134, j1141, hS.to [0, 1] (by kernel_rfl) ⟨rfl, rfl, rfl, rfl, rfl, rfl, trivial⟩, hV1135, hr1138, hz1140, hM⟩
     ·refine wp_exit ?_
      refine then_ex (then_ex (blk_same (blk_n (then_n ?_))))
      refine wp_region_list <| st1 hS (mv rfl) rfl fun a w hS => st1 hS (bin rfl rfl rfl) rfl fun a w hS => st1x (v := Value.int .i64) (x0 := (w64 (i1004 + (1 : Int)))) hS (asg rfl) rfl fun i1102 a w hz hS => ?_
      have hM := lt_to hz hM; clear hz
      refine wpList_nil <| then_n ?_
      exact hJ1143 _ _ ⟨rw1075, data1076, f1077, i1102, hS.to [0, 1] (by kernel_rfl) ⟨rfl, rfl, rfl, rfl, rfl, trivial⟩, hV1078, hr1079, hz1080, hM⟩
  ·refine wp_exit ?_
   refine then_ex (then_ex (blk_same ?_))
   exact s_end (rs := []) hS rfl rfl (hret rw998 data999 f1000 w (wp_ok hM) hV1001 hr1002 hz1003 (hS.st.pick [0, 1] (by kernel_rfl)))

theorem slices_swapRangeCmpFunc_huff_packet__b6e1_7e8b_c {H : Imm} {F : List Frag} {w : World} {R : Ending → World → Prop} {kr : (List T_huff_packet) → Prop} {kp : Value → Prop} (hG : Gl H) (K : Nat) (data1526 : List T_huff_packet) (a_1534 : Int) (b_1535 : Int) (n_1536 : Int) (p1527 : Frag) (A1528 : Option Addr) (c1529 : Nat) (rw1530 : List (Row 2)) (f1532 : Frag) (hr1531 : RelL (R_huff_packet p1527) data1526 rw1530) (hV1533 : Vec 70 (Row.v (sz := 2)) 2 A1528 rw1530 c1529 f1532)
    (hS : St w H [p1527, f1532] F) (hm : (slices_swapRangeCmpFunc_huff_packet__b6e1_7e8b.m K data1526 a_1534 b_1535 n_1536).wp kr kp)
    (hret : ∀ (rw1637 : List (Row 2)) (data1638 : (List T_huff_packet)) (f1639 : Frag) (w : World), kr data1638 → (Vec 70 (Row.v (sz := 2)) 2 A1528 rw1637 c1529 f1639) → (RelL (R_huff_packet p1527) data1638 rw1637) → (rw1637.length = rw1530.length) → St w H [p1527, f1639] F → R (.returned (.tuple ⟨[]⟩)) w) :
    Calls Try.prog 48 ⟨[.slice A1528 rw1530.length c1529, .int .i64 a_1534, .int .i64 b_1535, .int .i64 n_1536, fnv 33 [] []]⟩ w R := by
 refine enter Try.func48 rfl Try.ntmps48 rfl hS fun a w hS => ?_
 have hM := hm; clear hm
 rw [slices_swapRangeCmpFunc_huff_packet__b6e1_7e8b.m] at hM
 have hs1537 : ∀ q ∈ p1527, q ∈ p1527 := fun _ h => h
 have hz1538 : rw1530.length = rw1530.length := rfl
 refine wp_seq <| wp_region_list <| st1 hS (asg rfl) rfl fun a w hS => wpList_nil <| then_n <| wp_block <| s_loopJ (fun k1595 a w => ∃ (rw1588 : List (Row 2)) (data1589 : (List T_huff_packet)) (f1590 : Frag) (i1594 : Int), Ss 38 [] [(0, .slice A1528 rw1588.length c1529), (1, .int .i64 a_1534), (2, .int .i64 b_1535), (3, .int .i64 n_1536), (10, .int .i64 i1594)] H [p1527, f1590] F a w ∧ (Vec 70 (Row.v (sz := 2)) 2 A1528 rw1588 c1529 f1590) ∧ (RelL (R_huff_packet p1527) data1589 rw1588) ∧ (rw1588.length = rw1530.length) ∧ (slices_swapRangeCmpFunc_huff_packet__b6e1_7e8b.l1 K a_1534 b_1535 n_1536 k1595 data1589 i1594).wp kr kp) K ?_ ?_ ?_
 ·exact ⟨rw1530, data1526, f1532, (0 : Int), hS.to [0, 1] (by kernel_rfl) ⟨rfl, rfl, rfl, rfl, rfl, trivial⟩, hV1533, hr1531, hz1538, hM⟩
 ·intro a w hI; obtain ⟨_, _, _, _, _, _, _, _, hM⟩ := hI; exact wp_fail hM
 ·intro k1595 a w hI J1636 hJ1636
  obtain ⟨rw1588, data1589, f1590, i1594, hS, hV1591, hr1592, hz1593, hM⟩ := hI
  rw [slices_swapRangeCmpFunc_huff_packet__b6e1_7e8b.l1] at hM
  refine wp_seq <| wp_seq <| wp_region_list <| st1 hS (mv rfl) rfl fun a w hS => st1 hS (mv rfl) rfl fun a w hS => st1 hS (bin rfl rfl rfl) rfl fun a w hS => wpList_nil <| then_n <| s_cond hS rfl hM (fun hb1596 hM => ?_) (fun hb1596 hM => ?_)
  ·refine wp_skip ?_
   refine then_n <| wp_seq <| wp_block ?_
   obtain ⟨hk1598, hM⟩ := wp_chk hM
   obtain ⟨A1599, c1600, hw1603, hp1601, hc1602⟩ := hr1592.get hk1598
   obtain ⟨hk1605, hM⟩ := wp_chk hM
   obtain ⟨A1606, c1607, hw1610, hp1608, hc1609⟩ := hr1592.get hk1605
   refine draw_begin (vals := [some (.slice A1528 rw1588.length c1529), some (.int .i64 a_1534), some (.int .i64 i1594), some (.int .i64 (w64 (a_1534 + i1594))), some (.slice A1528 rw1588.length c1529), some (.int .i64 b_1535), some (.int .i64 i1594), some (.int .i64 (w64 (b_1535 + i1594))), some (.slice A1528 rw1588.length c1529), some (.int .i64 b_1535), some (.int .i64 i1594), some (.int .i64 (w64 (b_1535 + i1594))), some (slp A1528 (Int.toNat (w64 (b_1535 + i1594)) * 2)), some (.agg ⟨[.int .i64 ((rd data1589 (w64 (b_1535 + i1594))).often_), .slice A1599 ((rd data1589 (w64 (b_1535 + i1594))).symbols_).length c1600]⟩), some (.slice A1528 rw1588.length c1529), some (.int .i64 a_1534), some (.int .i64 i1594), some (.int .i64 (w64 (a_1534 + i1594))), some (slp A1528 (Int.toNat (w64 (a_1534 + i1594)) * 2)), some (.agg ⟨[.int .i64 ((rd data1589 (w64 (a_1534 + i1594))).often_), .slice A1606 ((rd data1589 (w64 (a_1534 + i1594))).symbols_).length c1607]⟩), some (slp A1528 (Int.toNat (w64 (a_1534 + i1594)) * 2)), none, none, none]) hS mixed rfl ?_
   intro l w ho hcl hA hst
   refine phq hA hst ho hcl navail nmust 21 [0, 1, 2, 3, 4, 5, 6, 7, 8, 9, 10, 11, 12, 13, 14, 15, 16, 17, 18, 19, 20] rfl rfl rfl rfl rfl (by exact ⟨nR rfl rfl rfl rfl rfl (by exact ovE (mv rfl) rfl), nR rfl rfl rfl rfl rfl (by exact ovE (mv rfl) rfl), nR rfl rfl rfl rfl rfl (by exact ovE (mv rfl) rfl), nR rfl rfl rfl rfl rfl (by exact ovE (bin rfl rfl rfl) rfl), nR rfl rfl rfl rfl rfl (by exact ovE (mv rfl) rfl), nR rfl rfl rfl rfl rfl (by exact ovE (mv rfl) rfl), nR rfl rfl rfl rfl rfl (by exact ovE (mv rfl) rfl), nR rfl rfl rfl rfl rfl (by exact ovE (bin rfl rfl rfl) rfl), nR rfl rfl rfl rfl rfl (by exact ovE (mv rfl) rfl), nR rfl rfl rfl rfl rfl (by exact ovE (mv rfl) rfl), nR rfl rfl rfl rfl rfl (by exact ovE (mv rfl) rfl), nR rfl rfl rfl rfl rfl (by exact ovE (bin rfl rfl rfl) rfl), nR rfl rfl rfl rfl rfl (by exact ovE (ixV rfl rfl Try.runUnderlying68 Try.sizeOf70 (hV1591.rd (i := 1) rfl) Row.len rfl (hr1592.inb hk1598)) rfl), nR rfl rfl rfl rfl rfl (by exact ovE (ovE (ldVA rfl (hV1591.rd (i := 1) rfl) Row.len (hr1592.inb hk1598) Try.isAgg70 Try.sizeOf70 rfl) (congrArg (fun l => Value.agg ⟨l⟩) hw1603)) rfl), nR rfl rfl rfl rfl rfl (by exact ovE (mv rfl) rfl), nR rfl rfl rfl rfl rfl (by exact ovE (mv rfl) rfl), nR rfl rfl rfl rfl rfl (by exact ovE (mv rfl) rfl), nR rfl rfl rfl rfl rfl (by exact ovE (bin rfl rfl rfl) rfl), nR rfl rfl rfl rfl rfl (by exact ovE (ixV rfl rfl Try.runUnderlying68 Try.sizeOf70 (hV1591.rd (i := 1) rfl) Row.len rfl (hr1592.inb hk1605)) rfl), nR rfl rfl rfl rfl rfl (by exact ovE (ovE (ldVA rfl (hV1591.rd (i := 1) rfl) Row.len (hr1592.inb hk1605) Try.isAgg70 Try.sizeOf70 rfl) (congrArg (fun l => Value.agg ⟨l⟩) hw1610)) rfl), nR rfl rfl rfl rfl rfl (by exact ovE (ixV rfl rfl Try.runUnderlying68 Try.sizeOf70 (hV1591.rd (i := 1) rfl) Row.len rfl (hr1592.inb hk1605)) rfl), trivial⟩) fun D l a w ho hcl hav hpre hm hE hk hA hst => ?_
   have hS := (Ss.mk hE hst).env2 (e' := [(29, .agg ⟨[.int .i64 ((rd data1589 (w64 (b_1535 + i1594))).often_), .slice A1599 ((rd data1589 (w64 (b_1535 + i1594))).symbols_).length c1600]⟩), (36, slp A1528 (Int.toNat (w64 (a_1534 + i1594)) * 2))]) ⟨rfl, rfl, trivial⟩
   refine op_of_nth rfl <| stVR (i := (w64 (a_1534 + i1594))) (sz := 2) 1 (⟨[.int .i64 ((rd data1589 (w64 (b_1535 + i1594))).often_), .slice A1599 ((rd data1589 (w64 (b_1535 + i1594))).symbols_).length c1600], by simp, by simp [Value.oneCell']⟩ : Row 2) hS rfl rfl hV1591 rfl Try.sizeOf70 rfl (hr1592.inb hk1605) fun rw1617 w f1615 hz hV1616 hS => ?_
   obtain ⟨zs1618, hzm⟩ := nameE (data1589.set (Int.toNat (w64 (a_1534 + i1594))) (T_huff_packet.mk ((rd data1589 (w64 (b_1535 + i1594))).often_) ((rd data1589 (w64 (b_1535 + i1594))).symbols_)))
   replace hM := lt_to hzm hM
   have hr1619 := RelL.set (x := (T_huff_packet.mk ((rd data1589 (w64 (b_1535 + i1594))).often_) ((rd data1589 (w64 (b_1535 + i1594))).symbols_))) (r := (⟨[.int .i64 ((rd data1589 (w64 (b_1535 + i1594))).often_), .slice A1599 ((rd data1589 (w64 (b_1535 + i1594))).symbols_).length c1600], by simp, by simp [Value.oneCell']⟩ : Row 2)) (Int.toNat (w64 (a_1534 + i1594))) hr1592 (show R_huff_packet p1527 _ _ from ⟨A1599, c1600, rfl, hp1601, hc1602⟩)
   have hz1620 : rw1617.length = rw1588.length := by rw [hz]; exact List.length_set ..
   rw [← hz, ← hzm] at hr1619; clear hz hzm
   have hz1621 := Eq.trans hz1620 hz1593
   refine wpList_nil (then_n ?_)
   replace hst := hS.st
   obtain ⟨hk1623, hM⟩ := wp_chk hM
   obtain ⟨hcl, hmust, hav2, hA⟩ := dnN (vals' := [some (.slice A1528 rw1588.length c1529), some (.int .i64 a_1534), some (.int .i64 i1594), some (.int .i64 (w64 (a_1534 + i1594))), some (.slice A1528 rw1588.length c1529), some (.int .i64 b_1535), some (.int .i64 i1594), some (.int .i64 (w64 (b_1535 + i1594))), some (.slice A1528 rw1588.length c1529), some (.int .i64 b_1535), some (.int .i64 i1594), some (.int .i64 (w64 (b_1535 + i1594))), some (slp A1528 (Int.toNat (w64 (b_1535 + i1594)) * 2)), some (.agg ⟨[.int .i64 ((rd data1589 (w64 (b_1535 + i1594))).often_), .slice A1599 ((rd data1589 (w64 (b_1535 + i1594))).symbols_).length c1600]⟩), some (.slice A1528 rw1588.length c1529), some (.int .i64 a_1534), some (.int .i64 i1594), some (.int .i64 (w64 (a_1534 + i1594))), some (slp A1528 (Int.toNat (w64 (a_1534 + i1594)) * 2)), some (.agg ⟨[.int .i64 ((rd data1589 (w64 (a_1534 + i1594))).often_), .slice A1606 ((rd data1589 (w64 (a_1534 + i1594))).symbols_).length c1607]⟩), some (slp A1528 (Int.toNat (w64 (a_1534 + i1594)) * 2)), some undef, some (slp A1528 (Int.toNat (w64 (b_1535 + i1594)) * 2)), none]) 21 [(0, 21), (1, 21), (2, 21), (3, 21), (8, 21), (9, 21), (10, 21), (11, 21), (12, 21), (13, 21), (19, 21), (20, 21), (18, 19), (14, 18), (17, 18), (15, 17), (16, 17)] hA hcl hav hm hpre rfl rfl rfl rfl rfl
   clear hm hav
   refine phq hA hst ho hcl hav2 hmust 23 [4, 5, 6, 7, 22] rfl rfl rfl rfl rfl (by exact ⟨nR rfl rfl rfl rfl rfl (by exact ovE (mv rfl) rfl), nR rfl rfl rfl rfl rfl (by exact ovE (mv rfl) rfl), nR rfl rfl rfl rfl rfl (by exact ovE (mv rfl) rfl), nR rfl rfl rfl rfl rfl (by exact ovE (bin rfl rfl rfl) rfl), nR rfl rfl rfl rfl rfl (by exact ovE (ixV (lenx hz1620 rfl) rfl Try.runUnderlying68 Try.sizeOf70 (hV1616.rd (i := 1) rfl) Row.len rfl (hr1619.inb hk1623)) rfl), trivial⟩) fun D l a w ho hcl hav hpre hm hE hk hA hst => ?_
   have hS := (Ss.mk hE hst).env2 (e' := [(35, .agg ⟨[.int .i64 ((rd data1589 (w64 (a_1534 + i1594))).often_), .slice A1606 ((rd data1589 (w64 (a_1534 + i1594))).symbols_).length c1607]⟩), (37, slp A1528 (Int.toNat (w64 (b_1535 + i1594)) * 2))]) ⟨rfl, rfl, trivial⟩
   refine op_of_nth rfl <| stVR (i := (w64 (b_1535 + i1594))) (sz := 2) 1 (⟨[.int .i64 ((rd data1589 (w64 (a_1534 + i1594))).often_), .slice A1606 ((rd data1589 (w64 (a_1534 + i1594))).symbols_).length c1607], by simp, by simp [Value.oneCell']⟩ : Row 2) hS rfl rfl hV1616 rfl Try.sizeOf70 rfl (hr1619.inb hk1623) fun rw1630 w f1628 hz hV1629 hS => ?_
   obtain ⟨zs1631, hzm⟩ := nameE (zs1618.set (Int.toNat (w64 (b_1535 + i1594))) (T_huff_packet.mk ((rd data1589 (w64 (a_1534 + i1594))).often_) ((rd data1589 (w64 (a_1534 + i1594))).symbols_)))
   replace hM := lt_to hzm hM
   have hr1632 := RelL.set (x := (T_huff_packet.mk ((rd data1589 (w64 (a_1534 + i1594))).often_) ((rd data1589 (w64 (a_1534 + i1594))).symbols_))) (r := (⟨[.int .i64 ((rd data1589 (w64 (a_1534 + i1594))).often_), .slice A1606 ((rd data1589 (w64 (a_1534 + i1594))).symbols_).length c1607], by simp, by simp [Value.oneCell']⟩ : Row 2)) (Int.toNat (w64 (b_1535 + i1594))) hr1619 (show R_huff_packet p1527 _ _ from ⟨A1606, c1607, rfl, hp1608, hc1609⟩)
   have hz1633 : rw1630.length = rw1617.length := by rw [hz]; exact List.length_set ..
   rw [← hz, ← hzm] at hr1632; clear hz hzm
   have hz1634 := Eq.trans hz1633 hz1621
   refine wpList_nil (then_n ?_)
   replace hst := hS.st
   obtain ⟨hcl, hmust, hav2, hA⟩ := dnN (vals' := [some (.slice A1528 rw1588.length c1529), some (.int .i64 a_1534), some (.int .i64 i1594), some (.int .i64 (w64 (a_1534 + i1594))), some (.slice A1528 rw1588.length c1529), some (.int .i64 b_1535), some (.int .i64 i1594), some (.int .i64 (w64 (b_1535 + i1594))), some (.slice A1528 rw1588.length c1529), some (.int .i64 b_1535), some (.int .i64 i1594), some (.int .i64 (w64 (b_1535 + i1594))), some (slp A1528 (Int.toNat (w64 (b_1535 + i1594)) * 2)), some (.agg ⟨[.int .i64 ((rd data1589 (w64 (b_1535 + i1594))).often_), .slice A1599 ((rd data1589 (w64 (b_1535 + i1594))).symbols_).length c1600]⟩), some (.slice A1528 rw1588.length c1529), some (.int .i64 a_1534), some (.int .i64 i1594), some (.int .i64 (w64 (a_1534 + i1594))), some (slp A1528 (Int.toNat (w64 (a_1534 + i1594)) * 2)), some (.agg ⟨[.int .i64 ((rd data1589 (w64 (a_1534 + i1594))).often_), .slice A1606 ((rd data1589 (w64 (a_1534 + i1594))).symbols_).length c1607]⟩), some (slp A1528 (Int.toNat (w64 (a_1534 + i1594)) * 2)), some undef, some (slp A1528 (Int.toNat (w64 (b_1535 + i1594)) * 2)), some undef]) 23 [(0, 23), (1, 23), (2, 23), (3, 23), (4, 23), (5, 23), (6, 23), (7, 23), (8, 23), (9, 23), (10, 23), (11, 23), (12, 23), (13, 23), (14, 23), (15, 23), (16, 23), (17, 23), (18, 23), (19, 23), (20, 23), (21, 23), (22, 23)] hA hcl hav hm hpre rfl rfl rfl rfl rfl
   clear hm hav
   refine phqE hA hst ho hcl hmust [] rfl rfl rfl trivial fun a w hS => ?_
   replace hS := hS.env2 (e' := [(0, .slice A1528 rw1630.length c1529), (1, .int .i64 a_1534), (2, .int .i64 b_1535), (3, .int .i64 n_1536), (10, .int .i64 i1594)]) ⟨(relk (u := .slice A1528 rw1588.length c1529) rfl (by rw [hz1633, hz1620])), rfl, rfl, rfl, rfl, trivial⟩
   refine blk_n (then_n ?_)
   refine wp_region_list <| st1 hS (mv rfl) rfl fun a w hS => st1 hS (bin rfl rfl rfl) rfl fun a w hS => st1x (v := Value.int .i64) (x0 := (w64 (i1594 + (1 : Int)))) hS (asg rfl) rfl fun i1635 a w hz hS => ?_
   have hM := lt_to hz hM; clear hz
   refine wpList_nil <| then_n ?_
   exact hJ1636 _ _ ⟨rw1630, zs1631, f1628, i1635, hS.to [0, 1] (by kernel_rfl) ⟨rfl, rfl, rfl, rfl, rfl, trivial⟩, hV1629, hr1632, hz1634, hM⟩
  ·refine wp_exit ?_
   refine then_ex (then_ex (blk_same ?_))
   exact s_end (rs := []) hS rfl rfl (hret rw1588 data1589 f1590 w (wp_ok hM) hV1591 hr1592 hz1593 (hS.st.pick [0, 1] (by kernel_rfl)))

theorem slices_rotateCmpFunc_huff_packet__b6e1_7e8b_c {H : Imm} {F : List Frag} {w : World} {R : Ending → World → Prop} {kr : (List T_huff_packet) → Prop} {kp : Value → Prop} (hG : Gl H) (K : Nat) (data1506 : List T_huff_packet) (a_1514 : Int) (m1515 : Int) (b_1516 : Int) (p1507 : Frag) (A1508 : Option Addr) (c1509 : Nat) (rw1510 : List (Row 2)) (f1512 : Frag) (hr1511 : RelL (R_huff_packet p1507) data1506 rw1510) (hV1513 : Vec 70 (Row.v (sz := 2)) 2 A1508 rw1510 c1509 f1512)
    (hS : St w H [p1507, f1512] F) (hm : (slices_rotateCmpFunc_huff_packet__b6e1_7e8b.m K data1506 a_1514 m1515 b_1516).wp kr kp)
    (hret : ∀ (rw1710 : List (Row 2)) (data1711 : (List T_huff_packet)) (f1712 : Frag) (w : World), kr data1711 → (Vec 70 (Row.v (sz := 2)) 2 A1508 rw1710 c1509 f1712) → (RelL (R_huff_packet p1507) data1711 rw1710) → (rw1710.length = rw1510.length) → St w H [p1507, f1712] F → R (.returned (.tuple ⟨[]⟩)) w) :
    Calls Try.prog 47 ⟨[.slice A1508 rw1510.length c1509, .int .i64 a_1514, .int .i64 m1515, .int .i64 b_1516, fnv 33 [] []]⟩ w R := by
 refine enter Try.func47 rfl Try.ntmps47 rfl hS fun a w hS => ?_
 have hM := hm; clear hm
 rw [slices_rotateCmpFunc_huff_packet__b6e1_7e8b.m] at hM
 have hs1517 : ∀ q ∈ p1507, q ∈ p1507 := fun _ h => h
 have hz1518 : rw1510.length = rw1510.length := rfl
 refine wp_seq <| wp_region_list <| st1 hS (mv rfl) rfl fun a w hS => st1 hS (mv rfl) rfl fun a w hS => st1 hS (bin rfl rfl rfl) rfl fun a w hS => st1x (v := Value.int .i64) (x0 := (w64 (m1515 - a_1514))) hS (asg rfl) rfl fun i1519 a w hz hS => ?_
 have hM := lt_to hz hM; clear hz
 refine wpList_nil <| then_n <| wp_seq <| wp_region_list <| st1 hS (mv rfl) rfl fun a w hS => st1 hS (mv rfl) rfl fun a w hS => st1 hS (bin rfl rfl rfl) rfl fun a w hS => st1x (v := Value.int .i64) (x0 := (w64 (b_1516 - m1515))) hS (asg rfl) rfl fun j1520 a w hz hS => ?_
 have hM := lt_to hz hM; clear hz
 refine wpList_nil <| then_n <| seq_joinJ (fun a w => ∃ (rw1695 : List (Row 2)) (data1696 : (List T_huff_packet)) (f1697 : Frag) (i1701 : Int), Ss 58 [] [(0, .slice A1508 rw1695.length c1509), (2, .int .i64 m1515), (4, fnv 33 [] []), (10, .int .i64 i1701)] H [p1507, f1697] F a w ∧ (Vec 70 (Row.v (sz := 2)) 2 A1508 rw1695 c1509 f1697) ∧ (RelL (R_huff_packet p1507) data1696 rw1695) ∧ (rw1695.length = rw1510.length) ∧ (slices_rotateCmpFunc_huff_packet__b6e1_7e8b.j2 K m1515 data1696 i1701).wp kr kp) (fun J1702 hJ1702 => ?_) ?_
 ·refine wp_block ?_
  refine s_loopJ (fun k1675 a w => ∃ (rw1667 : List (Row 2)) (data1668 : (List T_huff_packet)) (f1669 : Frag) (i1673 : Int) (j1674 : Int), Ss 58 [] [(0, .slice A1508 rw1667.length c1509), (2, .int .i64 m1515), (4, fnv 33 [] []), (10, .int .i64 i1673), (11, .int .i64 j1674)] H [p1507, f1669] F a w ∧ (Vec 70 (Row.v (sz := 2)) 2 A1508 rw1667 c1509 f1669) ∧ (RelL (R_huff_packet p1507) data1668 rw1667) ∧ (rw1667.length = rw1510.length) ∧ (slices_rotateCmpFunc_huff_packet__b6e1_7e8b.l1 K m1515 k1675 data1668 i1673 j1674).wp kr kp) K ?_ ?_ ?_
  ·exact ⟨rw1510, data1506, f1512, i1519, j1520, hS.to [0, 1] (by kernel_rfl) ⟨rfl, rfl, rfl, rfl, rfl, trivial⟩, hV1513, hr1511, hz1518, hM⟩
  ·intro a w hI; obtain ⟨_, _, _, _, _, _, _, _, _, hM⟩ := hI; exact wp_fail hM
  ·intro k1675 a w hI J1694 hJ1694
   obtain ⟨rw1667, data1668, f1669, i1673, j1674, hS, hV1670, hr1671, hz1672, hM⟩ := hI
   rw [slices_rotateCmpFunc_huff_packet__b6e1_7e8b.l1] at hM
   refine wp_seq <| wp_seq <| wp_region_list <| st1 hS (mv rfl) rfl fun a w hS => st1 hS (mv rfl) rfl fun a w hS => st1 hS (bin rfl rfl rfl) rfl fun a w hS => wpList_nil <| then_n <| s_cond hS rfl hM (fun hb1676 hM => ?_) (fun hb1676 hM => ?_)
   ·refine wp_skip ?_
    refine then_n <| wp_block <| wp_seq <| wp_region_list <| st1 hS (mv rfl) rfl fun a w hS => st1 hS (mv rfl) rfl fun a w hS => st1 hS (bin rfl rfl rfl) rfl fun a w hS => wpList_nil <| then_n <| s_cond hS rfl hM (fun hb1677 hM => ?_) (fun hb1677 hM => ?_)
    ·refine wp_seq ?_
     refine wp_region_list <| st1 hS (mv rfl) rfl fun a w hS => st1 hS (mv rfl) rfl fun a w hS => st1 hS (mv rfl) rfl fun a w hS => st1 hS (bin rfl rfl rfl) rfl fun a w hS => st1 hS (mv rfl) rfl fun a w hS => st1 hS (mv rfl) rfl fun a w hS => st1 hS (mv rfl) rfl fun a w hS => s_call hS rfl Try.call48 (slices_swapRangeCmpFunc_huff_packet__b6e1_7e8b_c hG K data1668 (w64 (m1515 - i1673)) m1515 j1674 p1507 A1508 c1509 rw1667 f1669 hr1671 hV1670 (hS.st.part 2 [0, 1] (by kernel_rfl)) (wp_bind hM) (fun rw1678 data1679 f1680 w hM h1681 h1682 h1683 hst => s_back hS.ev hst.appF rfl fun hS => ?_))
     replace hS : Ss _ _ _ H [p1507, f1680] F _ _ := hS
     have hz1684 := Eq.trans h1683 hz1672
     replace hS := hS.re 0 (u := .slice A1508 rw1667.length c1509) (v := .slice A1508 rw1678.length c1509) rfl (by rw [h1683])
     replace hS := hS.re 24 (u := .slice A1508 rw1667.length c1509) (v := .slice A1508 rw1678.length c1509) rfl (by rw [h1683])
     refine wpList_nil <| then_n <| wp_region_list <| st1 hS (mv rfl) rfl fun a w hS => st1 hS (mv rfl) rfl fun a w hS => st1 hS (bin rfl rfl rfl) rfl fun a w hS => st1x (v := Value.int .i64) (x0 := (w64 (i1673 - j1674))) hS (asg rfl) rfl fun i1685 a w hz hS => ?_
     have hM := lt_to hz hM; clear hz
     refine wpList_nil <| blk_n (then_n ?_)
     exact hJ1694 _ _ ⟨rw1678, data1679, f1680, i1685, j1674, hS.to [0, 1] (by kernel_rfl) ⟨rfl, rfl, rfl, rfl, rfl, trivial⟩, h1681, h1682, hz1684, hM⟩
    ·refine wp_seq ?_
     refine wp_region_list <| st1 hS (mv rfl) rfl fun a w hS => st1 hS (mv rfl) rfl fun a w hS => st1 hS (mv rfl) rfl fun a w hS => st1 hS (bin rfl rfl rfl) rfl fun a w hS => st1 hS (mv rfl) rfl fun a w hS => st1 hS (mv rfl) rfl fun a w hS => st1 hS (bin rfl rfl rfl) rfl fun a w hS => st1 hS (mv rfl) rfl fun a w hS => st1 hS (bin rfl rfl rfl) rfl fun a w hS => st1 hS (mv rfl) rfl fun a w hS => st1 hS (mv rfl) rfl fun a w hS => s_call hS rfl Try.call48 (slices_swapRangeCmpFunc_huff_packet__b6e1_7e8b_c hG K data1668 (w64 (m1515 - i1673)) (w64 ((w64 (m1515 + j1674)) - i1673)) i1673 p1507 A1508 c1509 rw1667 f1669 hr1671 hV1670 (hS.st.part 2 [0, 1] (by kernel_rfl)) (wp_bind hM) (fun rw1686 data1687 f1688 w hM h1689 h1690 h1691 hst => s_back hS.ev hst.appF rfl fun hS => ?_))
     replace hS : Ss _ _ _ H [p1507, f1688] F _ _ := hS
     have hz1692 := Eq.trans h1691 hz1672
     replace hS := hS.re 0 (u := .slice A1508 rw1667.length c1509) (v := .slice A1508 rw1686.length c1509) rfl (by rw [h1691])
     replace hS := hS.re 35 (u := .slice A1508 rw1667.length c1509) (v := .slice A1508 rw1686.length c1509) rfl (by rw [h1691])
     refine wpList_nil <| then_n <| wp_region_list <| st1 hS (mv rfl) rfl fun a w hS => st1 hS (mv rfl) rfl fun a w hS => st1 hS (bin rfl rfl rfl) rfl fun a w hS => st1x (v := Value.int .i64) (x0 := (w64 (j1674 - i1673))) hS (asg rfl) rfl fun j1693 a w hz hS => ?_
     have hM := lt_to hz hM; clear hz
     refine wpList_nil <| blk_n (then_n ?_)
     exact hJ1694 _ _ ⟨rw1686, data1687, f1688, i1673, j1693, hS.to [0, 1] (by kernel_rfl) ⟨rfl, rfl, rfl, rfl, rfl, trivial⟩, h1689, h1690, hz1692, hM⟩
   ·refine wp_exit ?_
    refine then_ex (then_ex (blk_same (then_n ?_)))
    exact hJ1702 _ _ ⟨rw1667, data1668, f1669, i1673, hS.to [0, 1] (by kernel_rfl) ⟨rfl, rfl, rfl, rfl, trivial⟩, hV1670, hr1671, hz1672, hM⟩
 ·intro a w hI
  obtain ⟨rw1695, data1696, f1697, i1701, hS, hV1698, hr1699, hz1700, hM⟩ := hI
  rw [slices_rotateCmpFunc_huff_packet__b6e1_7e8b.j2] at hM
  refine wp_region_list <| st1 hS (mv rfl) rfl fun a w hS => st1 hS (mv rfl) rfl fun a w hS => st1 hS (mv rfl) rfl fun a w hS => st1 hS (bin rfl rfl rfl) rfl fun a w hS => st1 hS (mv rfl) rfl fun a w hS => st1 hS (mv rfl) rfl fun a w hS => st1 hS (mv rfl) rfl fun a w hS => s_call hS rfl Try.call48 (slices_swapRangeCmpFunc_huff_packet__b6e1_7e8b_c hG K data1696 (w64 (m1515 - i1701)) m1515 i1701 p1507 A1508 c1509 rw1695 f1697 hr1699 hV1698 (hS.st.part 2 [0, 1] (by kernel_rfl)) (wp_bind hM) (fun rw1703 data1704 f1705 w hM h1706 h1707 h1708 hst => s_back hS.ev hst.appF rfl fun hS => ?_))
  replace hS : Ss _ _ _ H [p1507, f1705] F _ _ := hS
  have hz1709 := Eq.trans h1708 hz1700
  replace hS := hS.re 0 (u := .slice A1508 rw1695.length c1509) (v := .slice A1508 rw1703.length c1509) rfl (by rw [h1708])
  replace hS := hS.re 50 (u := .slice A1508 rw1695.length c1509) (v := .slice A1508 rw1703.length c1509) rfl (by rw [h1708])
  refine wpList_nil ?_
  exact s_end (rs := []) hS rfl rfl (hret rw1703 data1704 f1705 w (wp_ok hM) h1706 h1707 hz1709 (hS.st.pick [0, 1] (by kernel_rfl)))

theorem slices_symMergeCmpFunc_huff_packet__b6e1_7e8b_cr (K : Nat) : ∀ (d : Nat) {H : Imm} {F : List Frag} {w : World} {R : Ending → World → Prop} {kr : (List T_huff_packet) → Prop} {kp : Value → Prop} (hG : Gl H) (data1738 : List T_huff_packet) (a_1746 : Int) (m1747 : Int) (b_1748 : Int) (p1739 : Frag) (A1740 : Option Addr) (c1741 : Nat) (rw1742 : List (Row 2)) (f1744 : Frag) (hr1743 : RelL (R_huff_packet p1739) data1738 rw1742) (hV1745 : Vec 70 (Row.v (sz := 2)) 2 A1740 rw1742 c1741 f1744)
    (hS : St w H [p1739, f1744] F) (hm : (slices_symMergeCmpFunc_huff_packet__b6e1_7e8b.r K d data1738 a_1746 m1747 b_1748).wp kr kp)
    (hret : ∀ (rw2073 : List (Row 2)) (data2074 : (List T_huff_packet)) (f2075 : Frag) (w : World), kr data2074 → (Vec 70 (Row.v (sz := 2)) 2 A1740 rw2073 c1741 f2075) → (RelL (R_huff_packet p1739) data2074 rw2073) → (rw2073.length = rw1742.length) → St w H [p1739, f2075] F → R (.returned (.tuple ⟨[]⟩)) w),
    Calls Try.prog 44 ⟨[.slice A1740 rw1742.length c1741, .int .i64 a_1746, .int .i64 m1747, .int .i64 b_1748, fnv 33 [] []]⟩ w R := by
  intro d
  induction d with
  | zero => intro H F w R kr kp hG data1738 a_1746 m1747 b_1748 p1739 A1740 c1741 rw1742 f1744 hr1743 hV1745 hS hm hret; exact (wp_fail hm).elim
  | succ d ih =>
  intro H F w R kr kp hG data1738 a_1746 m1747 b_1748 p1739 A1740 c1741 rw1742 f1744 hr1743 hV1745 hS hm hret
  have hM := hm; clear hm
  rw [slices_symMergeCmpFunc_huff_packet__b6e1_7e8b.r] at hM; rw [slices_symMergeCmpFunc_huff_packet__b6e1_7e8b.b] at hM
  refine enter Try.func44 rfl Try.ntmps44 rfl hS fun a w hS => ?_
  have hs1749 : ∀ q ∈ p1739, q ∈ p1739 := fun _ h => h
  have hz1750 : rw1742.length = rw1742.length := rfl
  refine seq_joinJ (fun a w => Ss 220 [] [(0, .slice A1740 rw1742.length c1741), (1, .int .i64 a_1746), (2, .int .i64 m1747), (3, .int .i64 b_1748), (4, fnv 33 [] [])] H [p1739, f1744] F a w ∧ (slices_symMergeCmpFunc_huff_packet__b6e1_7e8b.j4 K (slices_symMergeCmpFunc_huff_packet__b6e1_7e8b.r K d) data1738 a_1746 m1747 b_1748).wp kr kp) (fun J1875 hJ1875 => ?_) ?_
  ·refine wp_seq ?_
   refine wp_region_list <| st1 hS (mv rfl) rfl fun a w hS => st1 hS (mv rfl) rfl fun a w hS => st1 hS (bin rfl rfl rfl) rfl fun a w hS => st1 hS (bin rfl rfl rfl) rfl fun a w hS => wpList_nil <| then_n <| s_cond hS rfl hM (fun hb1751 hM => ?_) (fun hb1751 hM => ?_)
   ·refine wp_seq ?_
    refine wp_region_list <| st1 hS (mv rfl) rfl fun a w hS => st1 hS (asg rfl) rfl fun a w hS => wpList_nil <| then_n <| wp_seq <| wp_region_list <| st1 hS (mv rfl) rfl fun a w hS => st1 hS (asg rfl) rfl fun a w hS => wpList_nil <| then_n <| seq_joinJ (fun a w => ∃ (i1775 : Int), Ss 220 [] [(0, .slice A1740 rw1742.length c1741), (1, .int .i64 a_1746), (10, .int .i64 i1775)] H [p1739, f1744] F a w ∧ (slices_symMergeCmpFunc_huff_packet__b6e1_7e8b.j2 K (slices_symMergeCmpFunc_huff_packet__b6e1_7e8b.r K d) data1738 a_1746 i1775).wp kr kp) (fun J1776 hJ1776 => ?_) ?_
    ·refine wp_block ?_
     refine s_loopJ (fun k1754 a w => ∃ (i1752 : Int) (j1753 : Int), Ss 220 [] [(0, .slice A1740 rw1742.length c1741), (1, .int .i64 a_1746), (4, fnv 33 [] []), (10, .int .i64 i1752), (11, .int .i64 j1753)] H [p1739, f1744] F a w ∧ (slices_symMergeCmpFunc_huff_packet__b6e1_7e8b.l1 K (slices_symMergeCmpFunc_huff_packet__b6e1_7e8b.r K d) data1738 a_1746 k1754 i1752 j1753).wp kr kp) K ?_ ?_ ?_
     ·exact ⟨m1747, b_1748, hS.to [0, 1] (by kernel_rfl) ⟨rfl, rfl, rfl, rfl, rfl, trivial⟩, hM⟩
     ·intro a w hI; obtain ⟨_, _, _, hM⟩ := hI; exact wp_fail hM
     ·intro k1754 a w hI J1774 hJ1774
      obtain ⟨i1752, j1753, hS, hM⟩ := hI
      rw [slices_symMergeCmpFunc_huff_packet__b6e1_7e8b.l1] at hM
      refine wp_seq <| wp_seq <| wp_region_list <| st1 hS (mv rfl) rfl fun a w hS => st1 hS (mv rfl) rfl fun a w hS => st1 hS (bin rfl rfl rfl) rfl fun a w hS => wpList_nil <| then_n <| s_cond hS rfl hM (fun hb1755 hM => ?_) (fun hb1755 hM => ?_)
      ·refine wp_skip ?_
       refine then_n <| wp_block <| wp_seq <| wp_region_list <| st1 hS (mv rfl) rfl fun a w hS => st1 hS (mv rfl) rfl fun a w hS => st1 hS (bin rfl rfl rfl) rfl fun a w hS => st1 hS (cvi rfl Try.runUnderlying3 Try.runUnderlying46) rfl fun a w hS => st1 hS (shr rfl rfl rfl) rfl fun a w hS => st1 hS (cvi rfl Try.runUnderlying46 Try.runUnderlying3) rfl fun a w hS => st1x (v := Value.int .i64) (x0 := (wr .i64 (ishr .u64 (wr .u64 (w64 (i1752 + j1753))) (1 : Int)))) hS (asg rfl) rfl fun h1756 a w hz hS => ?_
       have hM := lt_to hz hM; clear hz
       refine wpList_nil <| then_n <| wp_seq ?_
       obtain ⟨hk1758, hM⟩ := wp_chk hM
       obtain ⟨A1759, c1760, hw1763, hp1761, hc1762⟩ := hr1743.get hk1758
       obtain ⟨hk1765, hM⟩ := wp_chk hM
       obtain ⟨A1766, c1767, hw1770, hp1768, hc1769⟩ := hr1743.get hk1765
       refine draw_begin (vals := [some (fnv 33 [] []), some (.slice A1740 rw1742.length c1741), some (.int .i64 h1756), some (slp A1740 (Int.toNat h1756 * 2)), some (.agg ⟨[.int .i64 ((rd data1738 h1756).often_), .slice A1759 ((rd data1738 h1756).symbols_).length c1760]⟩), some (.slice A1740 rw1742.length c1741), some (.int .i64 a_1746), some (slp A1740 (Int.toNat a_1746 * 2)), some (.agg ⟨[.int .i64 ((rd data1738 a_1746).often_), .slice A1766 ((rd data1738 a_1746).symbols_).length c1767]⟩), none, none]) hS mixed rfl ?_
       intro l w ho hcl hA hst
       refine phq hA hst ho hcl navail nmust 9 [0, 1, 2, 3, 4, 5, 6, 7, 8] rfl rfl rfl rfl rfl (by exact ⟨nR rfl rfl rfl rfl rfl (by exact ovE (mv rfl) rfl), nR rfl rfl rfl rfl rfl (by exact ovE (mv rfl) rfl), nR rfl rfl rfl rfl rfl (by exact ovE (mv rfl) rfl), nR rfl rfl rfl rfl rfl (by exact ovE (ixV rfl rfl Try.runUnderlying68 Try.sizeOf70 (hV1745.rd (i := 1) rfl) Row.len rfl (hr1743.inb hk1758)) rfl), nR rfl rfl rfl rfl rfl (by exact ovE (ovE (ldVA rfl (hV1745.rd (i := 1) rfl) Row.len (hr1743.inb hk1758) Try.isAgg70 Try.sizeOf70 rfl) (congrArg (fun l => Value.agg ⟨l⟩) hw1763)) rfl), nR rfl rfl rfl rfl rfl (by exact ovE (mv rfl) rfl), nR rfl rfl rfl rfl rfl (by exact ovE (mv rfl) rfl), nR rfl rfl rfl rfl rfl (by exact ovE (ixV rfl rfl Try.runUnderlying68 Try.sizeOf70 (hV1745.rd (i := 1) rfl) Row.len rfl (hr1743.inb hk1765)) rfl), nR rfl rfl rfl rfl rfl (by exact ovE (ovE (ldVA rfl (hV1745.rd (i := 1) rfl) Row.len (hr1743.inb hk1765) Try.isAgg70 Try.sizeOf70 rfl) (congrArg (fun l => Value.agg ⟨l⟩) hw1770)) rfl), trivial⟩) fun D l a w ho hcl hav hpre hm hE hk hA hst => ?_
       have hS := (Ss.mk hE hst).env2 (e' := [(40, fnv 33 [] []), (44, .agg ⟨[.int .i64 ((rd data1738 h1756).often_), .slice A1759 ((rd data1738 h1756).symbols_).length c1760]⟩), (48, .agg ⟨[.int .i64 ((rd data1738 a_1746).often_), .slice A1766 ((rd data1738 a_1746).symbols_).length c1767]⟩)]) ⟨rfl, rfl, rfl, trivial⟩
       refine op_of_nth rfl <| s_callV hS rfl rfl Try.call33 (huff_Lengths_2_c hG K (T_huff_packet.mk ((rd data1738 h1756).often_) ((rd data1738 h1756).symbols_)) (T_huff_packet.mk ((rd data1738 a_1746).often_) ((rd data1738 a_1746).symbols_)) A1759 c1760 A1766 c1767 (hp1761.rdF (i := 0) rfl) hc1762 (hp1768.rdF (i := 0) rfl) hc1769 (hS.st.part 0 [0, 1] (by kernel_rfl)) (wp_bind hM) (fun x1771 w hM  hst => s_back hS.ev hst.appF rfl fun hS => ?_))
       replace hS : Ss _ _ _ H [p1739, f1744] F _ _ := hS
       refine wpList_nil (then_n ?_)
       replace hst := hS.st
       obtain ⟨hcl, hmust, hav2, hA⟩ := dn (vals' := [some (fnv 33 [] []), some (.slice A1740 rw1742.length c1741), some (.int .i64 h1756), some (slp A1740 (Int.toNat h1756 * 2)), some (.agg ⟨[.int .i64 ((rd data1738 h1756).often_), .slice A1759 ((rd data1738 h1756).symbols_).length c1760]⟩), some (.slice A1740 rw1742.length c1741), some (.int .i64 a_1746), some (slp A1740 (Int.toNat a_1746 * 2)), some (.agg ⟨[.int .i64 ((rd data1738 a_1746).often_), .slice A1766 ((rd data1738 a_1746).symbols_).length c1767]⟩), some (.int .i64 x1771), some (.bool (decide (x1771 < (0 : Int))))]) 9 [(0, 9), (4, 9), (8, 9), (3, 4), (7, 8), (1, 3), (2, 3), (5, 7), (6, 7)] hA hcl hav hm hpre hk rfl rfl rfl rfl rfl rfl rfl
       clear hm hav
       refine phqE hA hst ho hcl hmust [10] rfl rfl rfl (by exact ⟨nR rfl rfl rfl rfl rfl (by exact ovE (bin rfl rfl rfl) rfl), trivial⟩) fun a w hS => ?_
       replace hS := hS.env2 (e' := [(0, .slice A1740 rw1742.length c1741), (1, .int .i64 a_1746), (4, fnv 33 [] []), (10, .int .i64 i1752), (11, .int .i64 j1753), (12, .int .i64 h1756), (50, .bool (decide (x1771 < (0 : Int))))]) ⟨rfl, rfl, rfl, rfl, rfl, rfl, rfl, trivial⟩
       refine then_n <| s_cond hS rfl hM (fun hb1772 hM => ?_) (fun hb1772 hM => ?_)
       ·refine wp_region_list ?_
        refine st1 hS (mv rfl) rfl fun a w hS => st1 hS (bin rfl rfl rfl) rfl fun a w hS => st1x (v := Value.int .i64) (x0 := (w64 (h1756 + (1 : Int)))) hS (asg rfl) rfl fun i1773 a w hz hS => ?_
        have hM := lt_to hz hM; clear hz
        refine wpList_nil <| blk_n (then_n ?_)
        exact hJ1774 _ _ ⟨i1773, j1753, hS.to [0, 1] (by kernel_rfl) ⟨rfl, rfl, rfl, rfl, rfl, trivial⟩, hM⟩
       ·refine wp_region_list ?_
        refine st1 hS (mv rfl) rfl fun a w hS => st1 hS (asg rfl) rfl fun a w hS => wpList_nil <| blk_n (then_n ?_)
        exact hJ1774 _ _ ⟨i1752, h1756, hS.to [0, 1] (by kernel_rfl) ⟨rfl, rfl, rfl, rfl, rfl, trivial⟩, hM⟩
      ·refine wp_exit ?_
       refine then_ex (then_ex (blk_same (then_n ?_)))
       exact hJ1776 _ _ ⟨i1752, hS.to [0, 1] (by kernel_rfl) ⟨rfl, rfl, rfl, trivial⟩, hM⟩
    ·intro a w hI
     obtain ⟨i1775, hS, hM⟩ := hI
     rw [slices_symMergeCmpFunc_huff_packet__b6e1_7e8b.j2] at hM
     refine wp_seq <| wp_seq <| wp_region_list <| st1 hS (mv rfl) rfl fun a w hS => st1 hS (asg rfl) rfl fun a w hS => wpList_nil <| then_n <| wp_block <| s_loopJ (fun k1833 a w => ∃ (rw1826 : List (Row 2)) (data1827 : (List T_huff_packet)) (f1828 : Frag) (k_1832 : Int), Ss 220 [] [(0, .slice A1740 rw1826.length c1741), (10, .int .i64 i1775), (13, .int .i64 k_1832)] H [p1739, f1828] F a w ∧ (Vec 70 (Row.v (sz := 2)) 2 A1740 rw1826 c1741 f1828) ∧ (RelL (R_huff_packet p1739) data1827 rw1826) ∧ (rw1826.length = rw1742.length) ∧ (slices_symMergeCmpFunc_huff_packet__b6e1_7e8b.l3 K (slices_symMergeCmpFunc_huff_packet__b6e1_7e8b.r K d) i1775 k1833 data1827 k_1832).wp kr kp) K ?_ ?_ ?_
     ·exact ⟨rw1742, data1738, f1744, a_1746, hS.to [0, 1] (by kernel_rfl) ⟨rfl, rfl, rfl, trivial⟩, hV1745, hr1743, hz1750, hM⟩
     ·intro a w hI; obtain ⟨_, _, _, _, _, _, _, _, hM⟩ := hI; exact wp_fail hM
     ·intro k1833 a w hI J1874 hJ1874
      obtain ⟨rw1826, data1827, f1828, k_1832, hS, hV1829, hr1830, hz1831, hM⟩ := hI
      rw [slices_symMergeCmpFunc_huff_packet__b6e1_7e8b.l3] at hM
      refine wp_seq <| wp_seq <| wp_region_list <| st1 hS (mv rfl) rfl fun a w hS => st1 hS (mv rfl) rfl fun a w hS => st1 hS (bin rfl rfl rfl) rfl fun a w hS => st1 hS (bin rfl rfl rfl) rfl fun a w hS => wpList_nil <| then_n <| s_cond hS rfl hM (fun hb1834 hM => ?_) (fun hb1834 hM => ?_)
      ·refine wp_skip ?_
       refine then_n <| wp_seq <| wp_block ?_
       obtain ⟨hk1836, hM⟩ := wp_chk hM
       obtain ⟨A1837, c1838, hw1841, hp1839, hc1840⟩ := hr1830.get hk1836
       obtain ⟨hk1843, hM⟩ := wp_chk hM
       obtain ⟨A1844, c1845, hw1848, hp1846, hc1847⟩ := hr1830.get hk1843
       refine draw_begin (vals := [some (.slice A1740 rw1826.length c1741), some (.int .i64 k_1832), some (.slice A1740 rw1826.length c1741), some (.int .i64 k_1832), some (.int .i64 (w64 (k_1832 + (1 : Int)))), some (.slice A1740 rw1826.length c1741), some (.int .i64 k_1832), some (.int .i64 (w64 (k_1832 + (1 : Int)))), some (slp A1740 (Int.toNat (w64 (k_1832 + (1 : Int))) * 2)), some (.agg ⟨[.int .i64 ((rd data1827 (w64 (k_1832 + (1 : Int)))).often_), .slice A1837 ((rd data1827 (w64 (k_1832 + (1 : Int)))).symbols_).length c1838]⟩), some (.slice A1740 rw1826.length c1741), some (.int .i64 k_1832), some (slp A1740 (Int.toNat k_1832 * 2)), some (.agg ⟨[.int .i64 ((rd data1827 k_1832).often_), .slice A1844 ((rd data1827 k_1832).symbols_).length c1845]⟩), some (slp A1740 (Int.toNat k_1832 * 2)), none, none, none]) hS mixed rfl ?_
       intro l w ho hcl hA hst
       refine phq hA hst ho hcl navail nmust 15 [0, 1, 2, 3, 4, 5, 6, 7, 8, 9, 10, 11, 12, 13, 14] rfl rfl rfl rfl rfl (by exact ⟨nR rfl rfl rfl rfl rfl (by exact ovE (mv rfl) rfl), nR rfl rfl rfl rfl rfl (by exact ovE (mv rfl) rfl), nR rfl rfl rfl rfl rfl (by exact ovE (mv rfl) rfl), nR rfl rfl rfl rfl rfl (by exact ovE (mv rfl) rfl), nR rfl rfl rfl rfl rfl (by exact ovE (bin rfl rfl rfl) rfl), nR rfl rfl rfl rfl rfl (by exact ovE (mv rfl) rfl), nR rfl rfl rfl rfl rfl (by exact ovE (mv rfl) rfl), nR rfl rfl rfl rfl rfl (by exact ovE (bin rfl rfl rfl) rfl), nR rfl rfl rfl rfl rfl (by exact ovE (ixV rfl rfl Try.runUnderlying68 Try.sizeOf70 (hV1829.rd (i := 1) rfl) Row.len rfl (hr1830.inb hk1836)) rfl), nR rfl rfl rfl rfl rfl (by exact ovE (ovE (ldVA rfl (hV1829.rd (i := 1) rfl) Row.len (hr1830.inb hk1836) Try.isAgg70 Try.sizeOf70 rfl) (congrArg (fun l => Value.agg ⟨l⟩) hw1841)) rfl), nR rfl rfl rfl rfl rfl (by exact ovE (mv rfl) rfl), nR rfl rfl rfl rfl rfl (by exact ovE (mv rfl) rfl), nR rfl rfl rfl rfl rfl (by exact ovE (ixV rfl rfl Try.runUnderlying68 Try.sizeOf70 (hV1829.rd (i := 1) rfl) Row.len rfl (hr1830.inb hk1843)) rfl), nR rfl rfl rfl rfl rfl (by exact ovE (ovE (ldVA rfl (hV1829.rd (i := 1) rfl) Row.len (hr1830.inb hk1843) Try.isAgg70 Try.sizeOf70 rfl) (congrArg (fun l => Value.agg ⟨l⟩) hw1848)) rfl), nR rfl rfl rfl rfl rfl (by exact ovE (ixV rfl rfl Try.runUnderlying68 Try.sizeOf70 (hV1829.rd (i := 1) rfl) Row.len rfl (hr1830.inb hk1843)) rfl), trivial⟩) fun D l a w ho hcl hav hpre hm hE hk hA hst => ?_
       have hS := (Ss.mk hE hst).env2 (e' := [(70, .agg ⟨[.int .i64 ((rd data1827 (w64 (k_1832 + (1 : Int)))).often_), .slice A1837 ((rd data1827 (w64 (k_1832 + (1 : Int)))).symbols_).length c1838]⟩), (75, slp A1740 (Int.toNat k_1832 * 2))]) ⟨rfl, rfl, trivial⟩
       refine op_of_nth rfl <| stVR (i := k_1832) (sz := 2) 1 (⟨[.int .i64 ((rd data1827 (w64 (k_1832 + (1 : Int)))).often_), .slice A1837 ((rd data1827 (w64 (k_1832 + (1 : Int)))).symbols_).length c1838], by simp, by simp [Value.oneCell']⟩ : Row 2) hS rfl rfl hV1829 rfl Try.sizeOf70 rfl (hr1830.inb hk1843) fun rw1855 w f1853 hz hV1854 hS => ?_
       obtain ⟨zs1856, hzm⟩ := nameE (data1827.set (Int.toNat k_1832) (T_huff_packet.mk ((rd data1827 (w64 (k_1832 + (1 : Int)))).often_) ((rd data1827 (w64 (k_1832 + (1 : Int)))).symbols_)))
       replace hM := lt_to hzm hM
       have hr1857 := RelL.set (x := (T_huff_packet.mk ((rd data1827 (w64 (k_1832 + (1 : Int)))).often_) ((rd data1827 (w64 (k_1832 + (1 : Int)))).symbols_))) (r := (⟨[.int .i64 ((rd data1827 (w64 (k_1832 + (1 : Int)))).often_), .slice A1837 ((rd data1827 (w64 (k_1832 + (1 : Int)))).symbols_).length c1838], by simp, by simp [Value.oneCell']⟩ : Row 2)) (Int.toNat k_1832) hr1830 (show R_huff_packet p1739 _ _ from ⟨A1837, c1838, rfl, hp1839, hc1840⟩)
       have hz1858 : rw1855.length = rw1826.length := by rw [hz]; exact List.length_set ..
       rw [← hz, ← hzm] at hr1857; clear hz hzm
       have hz1859 := Eq.trans hz1858 hz1831
       refine wpList_nil (then_n ?_)
       replace hst := hS.st
       obtain ⟨hk1861, hM⟩ := wp_chk hM
       obtain ⟨hcl, hmust, hav2, hA⟩ := dnN (vals' := [some (.slice A1740 rw1826.length c1741), some (.int .i64 k_1832), some (.slice A1740 rw1826.length c1741), some (.int .i64 k_1832), some (.int .i64 (w64 (k_1832 + (1 : Int)))), some (.slice A1740 rw1826.length c1741), some (.int .i64 k_1832), some (.int .i64 (w64 (k_1832 + (1 : Int)))), some (slp A1740 (Int.toNat (w64 (k_1832 + (1 : Int))) * 2)), some (.agg ⟨[.int .i64 ((rd data1827 (w64 (k_1832 + (1 : Int)))).often_), .slice A1837 ((rd data1827 (w64 (k_1832 + (1 : Int)))).symbols_).length c1838]⟩), some (.slice A1740 rw1826.length c1741), some (.int .i64 k_1832), some (slp A1740 (Int.toNat k_1832 * 2)), some (.agg ⟨[.int .i64 ((rd data1827 k_1832).often_), .slice A1844 ((rd data1827 k_1832).symbols_).length c1845]⟩), some (slp A1740 (Int.toNat k_1832 * 2)), some undef, some (slp A1740 (Int.toNat (w64 (k_1832 + (1 : Int))) * 2)), none]) 15 [(0, 15), (1, 15), (5, 15), (6, 15), (7, 15), (8, 15), (9, 15), (13, 15), (14, 15), (12, 13), (10, 12), (11, 12)] hA hcl hav hm hpre rfl rfl rfl rfl rfl
       clear hm hav
       refine phq hA hst ho hcl hav2 hmust 17 [2, 3, 4, 16] rfl rfl rfl rfl rfl (by exact ⟨nR rfl rfl rfl rfl rfl (by exact ovE (mv rfl) rfl), nR rfl rfl rfl rfl rfl (by exact ovE (mv rfl) rfl), nR rfl rfl rfl rfl rfl (by exact ovE (bin rfl rfl rfl) rfl), nR rfl rfl rfl rfl rfl (by exact ovE (ixV (lenx hz1858 rfl) rfl Try.runUnderlying68 Try.sizeOf70 (hV1854.rd (i := 1) rfl) Row.len rfl (hr1857.inb hk1861)) rfl), trivial⟩) fun D l a w ho hcl hav hpre hm hE hk hA hst => ?_
       have hS := (Ss.mk hE hst).env2 (e' := [(74, .agg ⟨[.int .i64 ((rd data1827 k_1832).often_), .slice A1844 ((rd data1827 k_1832).symbols_).length c1845]⟩), (76, slp A1740 (Int.toNat (w64 (k_1832 + (1 : Int))) * 2))]) ⟨rfl, rfl, trivial⟩
       refine op_of_nth rfl <| stVR (i := (w64 (k_1832 + (1 : Int)))) (sz := 2) 1 (⟨[.int .i64 ((rd data1827 k_1832).often_), .slice A1844 ((rd data1827 k_1832).symbols_).length c1845], by simp, by simp [Value.oneCell']⟩ : Row 2) hS rfl rfl hV1854 rfl Try.sizeOf70 rfl (hr1857.inb hk1861) fun rw1868 w f1866 hz hV1867 hS => ?_
       obtain ⟨zs1869, hzm⟩ := nameE (zs1856.set (Int.toNat (w64 (k_1832 + (1 : Int)))) (T_huff_packet.mk ((rd data1827 k_1832).often_) ((rd data1827 k_1832).symbols_)))
       replace hM := lt_to hzm hM
       have hr1870 := RelL.set (x := (T_huff_packet.mk ((rd data1827 k_1832).often_) ((rd data1827 k_1832).symbols_))) (r := (⟨[.int .i64 ((rd data1827 k_1832).often_), .slice A1844 ((rd data1827 k_1832).symbols_).length c1845], by simp, by simp [Value.oneCell']⟩ : Row 2)) (Int.toNat (w64 (k_1832 + (1 : Int)))) hr1857 (show R_huff_packet p1739 _ _ from ⟨A1844, c1845, rfl, hp1846, hc1847⟩)
       have hz1871 : rw1868.length = rw1855.length := by rw [hz]; exact List.length_set ..
       rw [← hz, ← hzm] at hr1870; clear hz hzm
       have hz1872 := Eq.trans hz1871 hz1859
       refine wpList_nil (then_n ?_)
       replace hst := hS.st
       obtain ⟨hcl, hmust, hav2, hA⟩ := dnN (vals' := [some (.slice A1740 rw1826.length c1741), some (.int .i64 k_1832), some (.slice A1740 rw1826.length c1741), some (.int .i64 k_1832), some (.int .i64 (w64 (k_1832 + (1 : Int)))), some (.slice A1740 rw1826.length c1741), some (.int .i64 k_1832), some (.int .i64 (w64 (k_1832 + (1 : Int)))), some (slp A1740 (Int.toNat (w64 (k_1832 + (1 : Int))) * 2)), some (.agg ⟨[.int .i64 ((rd data1827 (w64 (k_1832 + (1 : Int)))).often_), .slice A1837 ((rd data1827 (w64 (k_1832 + (1 : Int)))).symbols_).length c1838]⟩), some (.slice A1740 rw1826.length c1741), some (.int .i64 k_1832), some (slp A1740 (Int.toNat k_1832 * 2)), some (.agg ⟨[.int .i64 ((rd data1827 k_1832).often_), .slice A1844 ((rd data1827 k_1832).symbols_).length c1845]⟩), some (slp A1740 (Int.toNat k_1832 * 2)), some undef, some (slp A1740 (Int.toNat (w64 (k_1832 + (1 : Int))) * 2)), some undef]) 17 [(0, 17), (1, 17), (2, 17), (3, 17), (4, 17), (5, 17), (6, 17), (7, 17), (8, 17), (9, 17), (10, 17), (11, 17), (12, 17), (13, 17), (14, 17), (15, 17), (16, 17)] hA hcl hav hm hpre rfl rfl rfl rfl rfl
       clear hm hav
       refine phqE hA hst ho hcl hmust [] rfl rfl rfl trivial fun a w hS => ?_
       replace hS := hS.env2 (e' := [(0, .slice A1740 rw1868.length c1741), (10, .int .i64 i1775), (13, .int .i64 k_1832)]) ⟨(relk (u := .slice A1740 rw1826.length c1741) rfl (by rw [hz1871, hz1858])), rfl, rfl, trivial⟩
       refine blk_n (then_n ?_)
       refine wp_region_list <| st1 hS (mv rfl) rfl fun a w hS => st1 hS (bin rfl rfl rfl) rfl fun a w hS => st1x (v := Value.int .i64) (x0 := (w64 (k_1832 + (1 : Int)))) hS (asg rfl) rfl fun k_1873 a w hz hS => ?_
       have hM := lt_to hz hM; clear hz
       refine wpList_nil <| then_n ?_
       exact hJ1874 _ _ ⟨rw1868, zs1869, f1866, k_1873, hS.to [0, 1] (by kernel_rfl) ⟨rfl, rfl, rfl, trivial⟩, hV1867, hr1870, hz1872, hM⟩
      ·refine wp_exit ?_
       refine then_ex (then_ex (blk_same (then_n ?_)))
       refine wp_ret <| then_ret ?_
       exact s_ret (rs := []) hS rfl rfl (hret rw1826 data1827 f1828 w (wp_ok hM) hV1829 hr1830 hz1831 (hS.st.pick [0, 1] (by kernel_rfl)))
   ·refine wp_skip ?_
    refine then_n ?_
    exact hJ1875 _ _ ⟨hS.to [0, 1] (by kernel_rfl) ⟨rfl, rfl, rfl, rfl, rfl, trivial⟩, hM⟩
  ·intro a w hI
   obtain ⟨hS, hM⟩ := hI
   rw [slices_symMergeCmpFunc_huff_packet__b6e1_7e8b.j4] at hM
   refine seq_joinJ (fun a w => Ss 220 [] [(0, .slice A1740 rw1742.length c1741), (1, .int .i64 a_1746), (2, .int .i64 m1747), (3, .int .i64 b_1748), (4, fnv 33 [] [])] H [p1739, f1744] F a w ∧ (slices_symMergeCmpFunc_huff_packet__b6e1_7e8b.j8 K (slices_symMergeCmpFunc_huff_packet__b6e1_7e8b.r K d) data1738 a_1746 m1747 b_1748).wp kr kp) (fun J2000 hJ2000 => ?_) ?_
   ·refine wp_seq ?_
    refine wp_region_list <| st1 hS (mv rfl) rfl fun a w hS => st1 hS (mv rfl) rfl fun a w hS => st1 hS (bin rfl rfl rfl) rfl fun a w hS => st1 hS (bin rfl rfl rfl) rfl fun a w hS => wpList_nil <| then_n <| s_cond hS rfl hM (fun hb1876 hM => ?_) (fun hb1876 hM => ?_)
    ·refine wp_seq ?_
     refine wp_region_list <| st1 hS (mv rfl) rfl fun a w hS => st1 hS (asg rfl) rfl fun a w hS => wpList_nil <| then_n <| wp_seq <| wp_region_list <| st1 hS (mv rfl) rfl fun a w hS => st1 hS (asg rfl) rfl fun a w hS => wpList_nil <| then_n <| seq_joinJ (fun a w => ∃ (i1900 : Int), Ss 220 [] [(0, .slice A1740 rw1742.length c1741), (2, .int .i64 m1747), (14, .int .i64 i1900)] H [p1739, f1744] F a w ∧ (slices_symMergeCmpFunc_huff_packet__b6e1_7e8b.j6 K (slices_symMergeCmpFunc_huff_packet__b6e1_7e8b.r K d) data1738 m1747 i1900).wp kr kp) (fun J1901 hJ1901 => ?_) ?_
     ·refine wp_block ?_
      refine s_loopJ (fun k1879 a w => ∃ (i1877 : Int) (j1878 : Int), Ss 220 [] [(0, .slice A1740 rw1742.length c1741), (2, .int .i64 m1747), (4, fnv 33 [] []), (14, .int .i64 i1877), (15, .int .i64 j1878)] H [p1739, f1744] F a w ∧ (slices_symMergeCmpFunc_huff_packet__b6e1_7e8b.l5 K (slices_symMergeCmpFunc_huff_packet__b6e1_7e8b.r K d) data1738 m1747 k1879 i1877 j1878).wp kr kp) K ?_ ?_ ?_
      ·exact ⟨a_1746, m1747, hS.to [0, 1] (by kernel_rfl) ⟨rfl, rfl, rfl, rfl, rfl, trivial⟩, hM⟩
      ·intro a w hI; obtain ⟨_, _, _, hM⟩ := hI; exact wp_fail hM
      ·intro k1879 a w hI J1899 hJ1899
       obtain ⟨i1877, j1878, hS, hM⟩ := hI
       rw [slices_symMergeCmpFunc_huff_packet__b6e1_7e8b.l5] at hM
       refine wp_seq <| wp_seq <| wp_region_list <| st1 hS (mv rfl) rfl fun a w hS => st1 hS (mv rfl) rfl fun a w hS => st1 hS (bin rfl rfl rfl) rfl fun a w hS => wpList_nil <| then_n <| s_cond hS rfl hM (fun hb1880 hM => ?_) (fun hb1880 hM => ?_)
       ·refine wp_skip ?_
        refine then_n <| wp_block <| wp_seq <| wp_region_list <| st1 hS (mv rfl) rfl fun a w hS => st1 hS (mv rfl) rfl fun a w hS => st1 hS (bin rfl rfl rfl) rfl fun a w hS => st1 hS (cvi rfl Try.runUnderlying3 Try.runUnderlying46) rfl fun a w hS => st1 hS (shr rfl rfl rfl) rfl fun a w hS => st1 hS (cvi rfl Try.runUnderlying46 Try.runUnderlying3) rfl fun a w hS => st1x (v := Value.int .i64) (x0 := (wr .i64 (ishr .u64 (wr .u64 (w64 (i1877 + j1878))) (1 : Int)))) hS (asg rfl) rfl fun h1881 a w hz hS => ?_
        have hM := lt_to hz hM; clear hz
        refine wpList_nil <| then_n <| wp_seq ?_
        obtain ⟨hk1883, hM⟩ := wp_chk hM
        obtain ⟨A1884, c1885, hw1888, hp1886, hc1887⟩ := hr1743.get hk1883
        obtain ⟨hk1890, hM⟩ := wp_chk hM
        obtain ⟨A1891, c1892, hw1895, hp1893, hc1894⟩ := hr1743.get hk1890
        refine draw_begin (vals := [some (fnv 33 [] []), some (.slice A1740 rw1742.length c1741), some (.int .i64 m1747), some (slp A1740 (Int.toNat m1747 * 2)), some (.agg ⟨[.int .i64 ((rd data1738 m1747).often_), .slice A1884 ((rd data1738 m1747).symbols_).length c1885]⟩), some (.slice A1740 rw1742.length c1741), some (.int .i64 h1881), some (slp A1740 (Int.toNat h1881 * 2)), some (.agg ⟨[.int .i64 ((rd data1738 h1881).often_), .slice A1891 ((rd data1738 h1881).symbols_).length c1892]⟩), none, none, none]) hS mixed rfl ?_
        intro l w ho hcl hA hst
        refine phq hA hst ho hcl navail nmust 9 [0, 1, 2, 3, 4, 5, 6, 7, 8] rfl rfl rfl rfl rfl (by exact ⟨nR rfl rfl rfl rfl rfl (by exact ovE (mv rfl) rfl), nR rfl rfl rfl rfl rfl (by exact ovE (mv rfl) rfl), nR rfl rfl rfl rfl rfl (by exact ovE (mv rfl) rfl), nR rfl rfl rfl rfl rfl (by exact ovE (ixV rfl rfl Try.runUnderlying68 Try.sizeOf70 (hV1745.rd (i := 1) rfl) Row.len rfl (hr1743.inb hk1883)) rfl), nR rfl rfl rfl rfl rfl (by exact ovE (ovE (ldVA rfl (hV1745.rd (i := 1) rfl) Row.len (hr1743.inb hk1883) Try.isAgg70 Try.sizeOf70 rfl) (congrArg (fun l => Value.agg ⟨l⟩) hw1888)) rfl), nR rfl rfl rfl rfl rfl (by exact ovE (mv rfl) rfl), nR rfl rfl rfl rfl rfl (by exact ovE (mv rfl) rfl), nR rfl rfl rfl rfl rfl (by exact ovE (ixV rfl rfl Try.runUnderlying68 Try.sizeOf70 (hV1745.rd (i := 1) rfl) Row.len rfl (hr1743.inb hk1890)) rfl), nR rfl rfl rfl rfl rfl (by exact ovE (ovE (ldVA rfl (hV1745.rd (i := 1) rfl) Row.len (hr1743.inb hk1890) Try.isAgg70 Try.sizeOf70 rfl) (congrArg (fun l => Value.agg ⟨l⟩) hw1895)) rfl), trivial⟩) fun D l a w ho hcl hav hpre hm hE hk hA hst => ?_
        have hS := (Ss.mk hE hst).env2 (e' := [(92, fnv 33 [] []), (96, .agg ⟨[.int .i64 ((rd data1738 m1747).often_), .slice A1884 ((rd data1738 m1747).symbols_).length c1885]⟩), (100, .agg ⟨[.int .i64 ((rd data1738 h1881).often_), .slice A1891 ((rd data1738 h1881).symbols_).length c1892]⟩)]) ⟨rfl, rfl, rfl, trivial⟩
        refine op_of_nth rfl <| s_callV hS rfl rfl Try.call33 (huff_Lengths_2_c hG K (T_huff_packet.mk ((rd data1738 m1747).often_) ((rd data1738 m1747).symbols_)) (T_huff_packet.mk ((rd data1738 h1881).often_) ((rd data1738 h1881).symbols_)) A1884 c1885 A1891 c1892 (hp1886.rdF (i := 0) rfl) hc1887 (hp1893.rdF (i := 0) rfl) hc1894 (hS.st.part 0 [0, 1] (by kernel_rfl)) (wp_bind hM) (fun x1896 w hM  hst => s_back hS.ev hst.appF rfl fun hS => ?_))
        replace hS : Ss _ _ _ H [p1739, f1744] F _ _ := hS
        refine wpList_nil (then_n ?_)
        replace hst := hS.st
        obtain ⟨hcl, hmust, hav2, hA⟩ := dn (vals' := [some (fnv 33 [] []), some (.slice A1740 rw1742.length c1741), some (.int .i64 m1747), some (slp A1740 (Int.toNat m1747 * 2)), some (.agg ⟨[.int .i64 ((rd data1738 m1747).often_), .slice A1884 ((rd data1738 m1747).symbols_).length c1885]⟩), some (.slice A1740 rw1742.length c1741), some (.int .i64 h1881), some (slp A1740 (Int.toNat h1881 * 2)), some (.agg ⟨[.int .i64 ((rd data1738 h1881).often_), .slice A1891 ((rd data1738 h1881).symbols_).length c1892]⟩), some (.int .i64 x1896), some (.bool (decide (x1896 < (0 : Int)))), some (.bool (!(decide (x1896 < (0 : Int)))))]) 9 [(0, 9), (4, 9), (8, 9), (3, 4), (7, 8), (1, 3), (2, 3), (5, 7), (6, 7)] hA hcl hav hm hpre hk rfl rfl rfl rfl rfl rfl rfl
        clear hm hav
        refine phqE hA hst ho hcl hmust [10, 11] rfl rfl rfl (by exact ⟨nR rfl rfl rfl rfl rfl (by exact ovE (bin rfl rfl rfl) rfl), nR rfl rfl rfl rfl rfl (by exact ovE (un rfl rfl) rfl), trivial⟩) fun a w hS => ?_
        replace hS := hS.env2 (e' := [(0, .slice A1740 rw1742.length c1741), (2, .int .i64 m1747), (4, fnv 33 [] []), (14, .int .i64 i1877), (15, .int .i64 j1878), (16, .int .i64 h1881), (103, .bool (!(decide (x1896 < (0 : Int)))))]) ⟨rfl, rfl, rfl, rfl, rfl, rfl, rfl, trivial⟩
        refine then_n <| s_cond hS rfl hM (fun hb1897 hM => ?_) (fun hb1897 hM => ?_)
        ·refine wp_region_list ?_
         refine st1 hS (mv rfl) rfl fun a w hS => st1 hS (bin rfl rfl rfl) rfl fun a w hS => st1x (v := Value.int .i64) (x0 := (w64 (h1881 + (1 : Int)))) hS (asg rfl) rfl fun i1898 a w hz hS => ?_
         have hM := lt_to hz hM; clear hz
         refine wpList_nil <| blk_n (then_n ?_)
         exact hJ1899 _ _ ⟨i1898, j1878, hS.to [0, 1] (by kernel_rfl) ⟨rfl, rfl, rfl, rfl, rfl, trivial⟩, hM⟩
        ·refine wp_region_list ?_
         refine st1 hS (mv rfl) rfl fun a w hS => st1 hS (asg rfl) rfl fun a w hS => wpList_nil <| blk_n (then_n ?_)
         exact hJ1899 _ _ ⟨i1877, h1881, hS.to [0, 1] (by kernel_rfl) ⟨rfl, rfl, rfl, rfl, rfl, trivial⟩, hM⟩
       ·refine wp_exit ?_
        refine then_ex (then_ex (blk_same (then_n ?_)))
        exact hJ1901 _ _ ⟨i1877, hS.to [0, 1] (by kernel_rfl) ⟨rfl, rfl, rfl, trivial⟩, hM⟩
     ·intro a w hI
      obtain ⟨i1900, hS, hM⟩ := hI
      rw [slices_symMergeCmpFunc_huff_packet__b6e1_7e8b.j6] at hM
      refine wp_seq <| wp_seq <| wp_region_list <| st1 hS (mv rfl) rfl fun a w hS => st1 hS (asg rfl) rfl fun a w hS => wpList_nil <| then_n <| wp_block <| s_loopJ (fun k1958 a w => ∃ (rw1951 : List (Row 2)) (data1952 : (List T_huff_packet)) (f1953 : Frag) (k_1957 : Int), Ss 220 [] [(0, .slice A1740 rw1951.length c1741), (14, .int .i64 i1900), (17, .int .i64 k_1957)] H [p1739, f1953] F a w ∧ (Vec 70 (Row.v (sz := 2)) 2 A1740 rw1951 c1741 f1953) ∧ (RelL (R_huff_packet p1739) data1952 rw1951) ∧ (rw1951.length = rw1742.length) ∧ (slices_symMergeCmpFunc_huff_packet__b6e1_7e8b.l7 K (slices_symMergeCmpFunc_huff_packet__b6e1_7e8b.r K d) i1900 k1958 data1952 k_1957).wp kr kp) K ?_ ?_ ?_
      ·exact ⟨rw1742, data1738, f1744, m1747, hS.to [0, 1] (by kernel_rfl) ⟨rfl, rfl, rfl, trivial⟩, hV1745, hr1743, hz1750, hM⟩
      ·intro a w hI; obtain ⟨_, _, _, _, _, _, _, _, hM⟩ := hI; exact wp_fail hM
      ·intro k1958 a w hI J1999 hJ1999
       obtain ⟨rw1951, data1952, f1953, k_1957, hS, hV1954, hr1955, hz1956, hM⟩ := hI
       rw [slices_symMergeCmpFunc_huff_packet__b6e1_7e8b.l7] at hM
       refine wp_seq <| wp_seq <| wp_region_list <| st1 hS (mv rfl) rfl fun a w hS => st1 hS (mv rfl) rfl fun a w hS => st1 hS (bin rfl rfl rfl) rfl fun a w hS => wpList_nil <| then_n <| s_cond hS rfl hM (fun hb1959 hM => ?_) (fun hb1959 hM => ?_)
       ·refine wp_skip ?_
        refine then_n <| wp_seq <| wp_block ?_
        obtain ⟨hk1961, hM⟩ := wp_chk hM
        obtain ⟨A1962, c1963, hw1966, hp1964, hc1965⟩ := hr1955.get hk1961
        obtain ⟨hk1968, hM⟩ := wp_chk hM
        obtain ⟨A1969, c1970, hw1973, hp1971, hc1972⟩ := hr1955.get hk1968
        refine draw_begin (vals := [some (.slice A1740 rw1951.length c1741), some (.int .i64 k_1957), some (.slice A1740 rw1951.length c1741), some (.int .i64 k_1957), some (.int .i64 (w64 (k_1957 - (1 : Int)))), some (.slice A1740 rw1951.length c1741), some (.int .i64 k_1957), some (.int .i64 (w64 (k_1957 - (1 : Int)))), some (slp A1740 (Int.toNat (w64 (k_1957 - (1 : Int))) * 2)), some (.agg ⟨[.int .i64 ((rd data1952 (w64 (k_1957 - (1 : Int)))).often_), .slice A1962 ((rd data1952 (w64 (k_1957 - (1 : Int)))).symbols_).length c1963]⟩), some (.slice A1740 rw1951.length c1741), some (.int .i64 k_1957), some (slp A1740 (Int.toNat k_1957 * 2)), some (.agg ⟨[.int .i64 ((rd data1952 k_1957).often_), .slice A1969 ((rd data1952 k_1957).symbols_).length c1970]⟩), some (slp A1740 (Int.toNat k_1957 * 2)), none, none, none]) hS mixed rfl ?_
        intro l w ho hcl hA hst
        refine phq hA hst ho hcl navail nmust 15 [0, 1, 2, 3, 4, 5, 6, 7, 8, 9, 10, 11, 12, 13, 14] rfl rfl rfl rfl rfl (by exact ⟨nR rfl rfl rfl rfl rfl (by exact ovE (mv rfl) rfl), nR rfl rfl rfl rfl rfl (by exact ovE (mv rfl) rfl), nR rfl rfl rfl rfl rfl (by exact ovE (mv rfl) rfl), nR rfl rfl rfl rfl rfl (by exact ovE (mv rfl) rfl), nR rfl rfl rfl rfl rfl (by exact ovE (bin rfl rfl rfl) rfl), nR rfl rfl rfl rfl rfl (by exact ovE (mv rfl) rfl), nR rfl rfl rfl rfl rfl (by exact ovE (mv rfl) rfl), nR rfl rfl rfl rfl rfl (by exact ovE (bin rfl rfl rfl) rfl), nR rfl rfl rfl rfl rfl (by exact ovE (ixV rfl rfl Try.runUnderlying68 Try.sizeOf70 (hV1954.rd (i := 1) rfl) Row.len rfl (hr1955.inb hk1961)) rfl), nR rfl rfl rfl rfl rfl (by exact ovE (ovE (ldVA rfl (hV1954.rd (i := 1) rfl) Row.len (hr1955.inb hk1961) Try.isAgg70 Try.sizeOf70 rfl) (congrArg (fun l => Value.agg ⟨l⟩) hw1966)) rfl), nR rfl rfl rfl rfl rfl (by exact ovE (mv rfl) rfl), nR rfl rfl rfl rfl rfl (by exact ovE (mv rfl) rfl), nR rfl rfl rfl rfl rfl (by exact ovE (ixV rfl rfl Try.runUnderlying68 Try.sizeOf70 (hV1954.rd (i := 1) rfl) Row.len rfl (hr1955.inb hk1968)) rfl), nR rfl rfl rfl rfl rfl (by exact ovE (ovE (ldVA rfl (hV1954.rd (i := 1) rfl) Row.len (hr1955.inb hk1968) Try.isAgg70 Try.sizeOf70 rfl) (congrArg (fun l => Value.agg ⟨l⟩) hw1973)) rfl), nR rfl rfl rfl rfl rfl (by exact ovE (ixV rfl rfl Try.runUnderlying68 Try.sizeOf70 (hV1954.rd (i := 1) rfl) Row.len rfl (hr1955.inb hk1968)) rfl), trivial⟩) fun D l a w ho hcl hav hpre hm hE hk hA hst => ?_
        have hS := (Ss.mk hE hst).env2 (e' := [(122, .agg ⟨[.int .i64 ((rd data1952 (w64 (k_1957 - (1 : Int)))).often_), .slice A1962 ((rd data1952 (w64 (k_1957 - (1 : Int)))).symbols_).length c1963]⟩), (127, slp A1740 (Int.toNat k_1957 * 2))]) ⟨rfl, rfl, trivial⟩
        refine op_of_nth rfl <| stVR (i := k_1957) (sz := 2) 1 (⟨[.int .i64 ((rd data1952 (w64 (k_1957 - (1 : Int)))).often_), .slice A1962 ((rd data1952 (w64 (k_1957 - (1 : Int)))).symbols_).length c1963], by simp, by simp [Value.oneCell']⟩ : Row 2) hS rfl rfl hV1954 rfl Try.sizeOf70 rfl (hr1955.inb hk1968) fun rw1980 w f1978 hz hV1979 hS => ?_
        obtain ⟨zs1981, hzm⟩ := nameE (data1952.set (Int.toNat k_1957) (T_huff_packet.mk ((rd data1952 (w64 (k_1957 - (1 : Int)))).often_) ((rd data1952 (w64 (k_1957 - (1 : Int)))).symbols_)))
        replace hM := lt_to hzm hM
        have hr1982 := RelL.set (x := (T_huff_packet.mk ((rd data1952 (w64 (k_1957 - (1 : Int)))).often_) ((rd data1952 (w64 (k_1957 - (1 : Int)))).symbols_))) (r := (⟨[.int .i64 ((rd data1952 (w64 (k_1957 - (1 : Int)))).often_), .slice A1962 ((rd data1952 (w64 (k_1957 - (1 : Int)))).symbols_).length c1963], by simp, by simp [Value.oneCell']⟩ : Row 2)) (Int.toNat k_1957) hr1955 (show R_huff_packet p1739 _ _ from ⟨A1962, c1963, rfl, hp1964, hc1965⟩)
        have hz1983 : rw1980.length = rw1951.length := by rw [hz]; exact List.length_set ..
        rw [← hz, ← hzm] at hr1982; clear hz hzm
        have hz1984 := Eq.trans hz1983 hz1956
        refine wpList_nil (then_n ?_)
        replace hst := hS.st
        obtain ⟨hk1986, hM⟩ := wp_chk hM
        obtain ⟨hcl, hmust, hav2, hA⟩ := dnN (vals' := [some (.slice A1740 rw1951.length c1741), some (.int .i64 k_1957), some (.slice A1740 rw1951.length c1741), some (.int .i64 k_1957), some (.int .i64 (w64 (k_1957 - (1 : Int)))), some (.slice A1740 rw1951.length c1741), some (.int .i64 k_1957), some (.int .i64 (w64 (k_1957 - (1 : Int)))), some (slp A1740 (Int.toNat (w64 (k_1957 - (1 : Int))) * 2)), some (.agg ⟨[.int .i64 ((rd data1952 (w64 (k_1957 - (1 : Int)))).often_), .slice A1962 ((rd data1952 (w64 (k_1957 - (1 : Int)))).symbols_).length c1963]⟩), some (.slice A1740 rw1951.length c1741), some (.int .i64 k_1957), some (slp A1740 (Int.toNat k_1957 * 2)), some (.agg ⟨[.int .i64 ((rd data1952 k_1957).often_), .slice A1969 ((rd data1952 k_1957).symbols_).length c1970]⟩), some (slp A1740 (Int.toNat k_1957 * 2)), some undef, some (slp A1740 (Int.toNat (w64 (k_1957 - (1 : Int))) * 2)), none]) 15 [(0, 15), (1, 15), (5, 15), (6, 15), (7, 15), (8, 15), (9, 15), (13, 15), (14, 15), (12, 13), (10, 12), (11, 12)] hA hcl hav hm hpre rfl rfl rfl rfl rfl
        clear hm hav
        refine phq hA hst ho hcl hav2 hmust 17 [2, 3, 4, 16] rfl rfl rfl rfl rfl (by exact ⟨nR rfl rfl rfl rfl rfl (by exact ovE (mv rfl) rfl), nR rfl rfl rfl rfl rfl (by exact ovE (mv rfl) rfl), nR rfl rfl rfl rfl rfl (by exact ovE (bin rfl rfl rfl) rfl), nR rfl rfl rfl rfl rfl (by exact ovE (ixV (lenx hz1983 rfl) rfl Try.runUnderlying68 Try.sizeOf70 (hV1979.rd (i := 1) rfl) Row.len rfl (hr1982.inb hk1986)) rfl), trivial⟩) fun D l a w ho hcl hav hpre hm hE hk hA hst => ?_
        have hS := (Ss.mk hE hst).env2 (e' := [(126, .agg ⟨[.int .i64 ((rd data1952 k_1957).often_), .slice A1969 ((rd data1952 k_1957).symbols_).length c1970]⟩), (128, slp A1740 (Int.toNat (w64 (k_1957 - (1 : Int))) * 2))]) ⟨rfl, rfl, trivial⟩
        refine op_of_nth rfl <| stVR (i := (w64 (k_1957 - (1 : Int)))) (sz := 2) 1 (⟨[.int .i64 ((rd data1952 k_1957).often_), .slice A1969 ((rd data1952 k_1957).symbols_).length c1970], by simp, by simp [Value.oneCell']⟩ : Row 2) hS rfl rfl hV1979 rfl Try.sizeOf70 rfl (hr1982.inb hk1986) fun rw1993 w f1991 hz hV1992 hS => ?_
        obtain ⟨zs1994, hzm⟩ := nameE (zs1981.set (Int.toNat (w64 (k_1957 - (1 : Int)))) (T_huff_packet.mk ((rd data1952 k_1957).often_) ((rd data1952 k_1957).symbols_)))
        replace hM := lt_to hzm hM
        have hr1995 := RelL.set (x := (T_huff_packet.mk ((rd data1952 k_1957).often_) ((rd data1952 k_1957).symbols_))) (r := (⟨[.int .i64 ((rd data1952 k_1957).often_), .slice A1969 ((rd data1952 k_1957).symbols_).length c1970], by simp, by simp [Value.oneCell']⟩ : Row 2)) (Int.toNat (w64 (k_1957 - (1 : Int)))) hr1982 (show R_huff_packet p1739 _ _ from ⟨A1969, c1970, rfl, hp1971, hc1972⟩)
        have hz1996 : rw1993.length = rw1980.length := by rw [hz]; exact List.length_set ..
        rw [← hz, ← hzm] at hr1995; clear hz hzm
        have hz1997 := Eq.trans hz1996 hz1984
        refine wpList_nil (then_n ?_)
        replace hst := hS.st
        obtain ⟨hcl, hmust, hav2, hA⟩ := dnN (vals' := [some (.slice A1740 rw1951.length c1741), some (.int .i64 k_1957), some (.slice A1740 rw1951.length c1741), some (.int .i64 k_1957), some (.int .i64 (w64 (k_1957 - (1 : Int)))), some (.slice A1740 rw1951.length c1741), some (.int .i64 k_1957), some (.int .i64 (w64 (k_1957 - (1 : Int)))), some (slp A1740 (Int.toNat (w64 (k_1957 - (1 : Int))) * 2)), some (.agg ⟨[.int .i64 ((rd data1952 (w64 (k_1957 - (1 : Int)))).often_), .slice A1962 ((rd data1952 (w64 (k_1957 - (1 : Int)))).symbols_).length c1963]⟩), some (.slice A1740 rw1951.length c1741), some (.int .i64 k_1957), some (slp A1740 (Int.toNat k_1957 * 2)), some (.agg ⟨[.int .i64 ((rd data1952 k_1957).often_), .slice A1969 ((rd data1952 k_1957).symbols_).length c1970]⟩), some (slp A1740 (Int.toNat k_1957 * 2)), some undef, some (slp A1740 (Int.toNat (w64 (k_1957 - (1 : Int))) * 2)), some undef]) 17 [(0, 17), (1, 17), (2, 17), (3, 17), (4, 17), (5, 17), (6, 17), (7, 17), (8, 17), (9, 17), (10, 17), (11, 17), (12, 17), (13, 17), (14, 17), (15, 17), (16, 17)] hA hcl hav hm hpre rfl rfl rfl rfl rfl
        clear hm hav
        refine phqE hA hst ho hcl hmust [] rfl rfl rfl trivial fun a w hS => ?_
        replace hS := hS.env2 (e' := [(0, .slice A1740 rw1993.length c1741), (14, .int .i64 i1900), (17, .int .i64 k_1957)]) ⟨(relk (u := .slice A1740 rw1951.length c1741) rfl (by rw [hz1996, hz1983])), rfl, rfl, trivial⟩
        refine blk_n (then_n ?_)
        refine wp_region_list <| st1 hS (mv rfl) rfl fun a w hS => st1 hS (bin rfl rfl rfl) rfl fun a w hS => st1x (v := Value.int .i64) (x0 := (w64 (k_1957 - (1 : Int)))) hS (asg rfl) rfl fun k_1998 a w hz hS => ?_
        have hM := lt_to hz hM; clear hz
        refine wpList_nil <| then_n ?_
        exact hJ1999 _ _ ⟨rw1993, zs1994, f1991, k_1998, hS.to [0, 1] (by kernel_rfl) ⟨rfl, rfl, rfl, trivial⟩, hV1992, hr1995, hz1997, hM⟩
       ·refine wp_exit ?_
        refine then_ex (then_ex (blk_same (then_n ?_)))
        refine wp_ret <| then_ret ?_
        exact s_ret (rs := []) hS rfl rfl (hret rw1951 data1952 f1953 w (wp_ok hM) hV1954 hr1955 hz1956 (hS.st.pick [0, 1] (by kernel_rfl)))
    ·refine wp_skip ?_
     refine then_n ?_
     exact hJ2000 _ _ ⟨hS.to [0, 1] (by kernel_rfl) ⟨rfl, rfl, rfl, rfl, rfl, trivial⟩, hM⟩
   ·intro a w hI
    obtain ⟨hS, hM⟩ := hI
    rw [slices_symMergeCmpFunc_huff_packet__b6e1_7e8b.j8] at hM
    refine wp_seq <| wp_region_list <| st1 hS (mv rfl) rfl fun a w hS => st1 hS (mv rfl) rfl fun a w hS => st1 hS (bin rfl rfl rfl) rfl fun a w hS => st1 hS (cvi rfl Try.runUnderlying3 Try.runUnderlying46) rfl fun a w hS => st1 hS (shr rfl rfl rfl) rfl fun a w hS => st1 hS (cvi rfl Try.runUnderlying46 Try.runUnderlying3) rfl fun a w hS => st1x (v := Value.int .i64) (x0 := (wr .i64 (ishr .u64 (wr .u64 (w64 (a_1746 + b_1748))) (1 : Int)))) hS (asg rfl) rfl fun mid2001 a w hz hS => ?_
    have hM := lt_to hz hM; clear hz
    refine wpList_nil <| then_n <| wp_seq <| wp_region_list <| st1 hS (mv rfl) rfl fun a w hS => st1 hS (mv rfl) rfl fun a w hS => st1 hS (bin rfl rfl rfl) rfl fun a w hS => st1x (v := Value.int .i64) (x0 := (w64 (mid2001 + m1747))) hS (asg rfl) rfl fun n_2002 a w hz hS => ?_
    have hM := lt_to hz hM; clear hz
    refine wpList_nil <| then_n <| wp_seq <| wp_region_list <| st1 hS (asg rfl) rfl fun a w hS => st1 hS (asg rfl) rfl fun a w hS => wpList_nil <| then_n <| seq_joinJ (fun a w => ∃ (start2005 : Int) (r2006 : Int), Ss 220 [] [(0, .slice A1740 rw1742.length c1741), (1, .int .i64 a_1746), (2, .int .i64 m1747), (3, .int .i64 b_1748), (4, fnv 33 [] []), (18, .int .i64 mid2001), (19, .int .i64 n_2002), (20, .int .i64 start2005), (21, .int .i64 r2006)] H [p1739, f1744] F a w ∧ (slices_symMergeCmpFunc_huff_packet__b6e1_7e8b.j9 K (slices_symMergeCmpFunc_huff_packet__b6e1_7e8b.r K d) data1738 a_1746 m1747 b_1748 mid2001 n_2002 start2005 r2006).wp kr kp) (fun J2007 hJ2007 => ?_) ?_
    ·refine wp_seq ?_
     refine wp_region_list <| st1 hS (mv rfl) rfl fun a w hS => st1 hS (mv rfl) rfl fun a w hS => st1 hS (bin rfl rfl rfl) rfl fun a w hS => wpList_nil <| then_n <| s_cond hS rfl hM (fun hb2003 hM => ?_) (fun hb2003 hM => ?_)
     ·refine wp_seq ?_
      refine wp_region_list <| st1 hS (mv rfl) rfl fun a w hS => st1 hS (mv rfl) rfl fun a w hS => st1 hS (bin rfl rfl rfl) rfl fun a w hS => st1x (v := Value.int .i64) (x0 := (w64 (n_2002 - b_1748))) hS (asg rfl) rfl fun start2004 a w hz hS => ?_
      have hM := lt_to hz hM; clear hz
      refine wpList_nil <| then_n <| wp_region_list <| st1 hS (mv rfl) rfl fun a w hS => st1 hS (asg rfl) rfl fun a w hS => wpList_nil <| then_n ?_
      exact hJ2007 _ _ ⟨start2004, mid2001, hS.to [0, 1] (by kernel_rfl) ⟨rfl, rfl, rfl, rfl, rfl, rfl, rfl, rfl, rfl, trivial⟩, hM⟩
     ·refine wp_seq ?_
      refine wp_region_list <| st1 hS (mv rfl) rfl fun a w hS => st1 hS (asg rfl) rfl fun a w hS => wpList_nil <| then_n <| wp_region_list <| st1 hS (mv rfl) rfl fun a w hS => st1 hS (asg rfl) rfl fun a w hS => wpList_nil <| then_n ?_
      exact hJ2007 _ _ ⟨a_1746, m1747, hS.to [0, 1] (by kernel_rfl) ⟨rfl, rfl, rfl, rfl, rfl, rfl, rfl, rfl, rfl, trivial⟩, hM⟩
    ·intro a w hI
     obtain ⟨start2005, r2006, hS, hM⟩ := hI
     rw [slices_symMergeCmpFunc_huff_packet__b6e1_7e8b.j9] at hM
     refine wp_seq <| wp_region_list <| st1 hS (mv rfl) rfl fun a w hS => st1 hS (bin rfl rfl rfl) rfl fun a w hS => st1x (v := Value.int .i64) (x0 := (w64 (n_2002 - (1 : Int)))) hS (asg rfl) rfl fun p2008 a w hz hS => ?_
     have hM := lt_to hz hM; clear hz
     refine wpList_nil <| then_n <| seq_joinJ (fun a w => ∃ (start2032 : Int), Ss 220 [] [(0, .slice A1740 rw1742.length c1741), (1, .int .i64 a_1746), (2, .int .i64 m1747), (3, .int .i64 b_1748), (4, fnv 33 [] []), (18, .int .i64 mid2001), (19, .int .i64 n_2002), (20, .int .i64 start2032)] H [p1739, f1744] F a w ∧ (slices_symMergeCmpFunc_huff_packet__b6e1_7e8b.j11 K (slices_symMergeCmpFunc_huff_packet__b6e1_7e8b.r K d) data1738 a_1746 m1747 b_1748 mid2001 n_2002 start2032).wp kr kp) (fun J2033 hJ2033 => ?_) ?_
     ·refine wp_block ?_
      refine s_loopJ (fun k2011 a w => ∃ (start2009 : Int) (r2010 : Int), Ss 220 [] [(0, .slice A1740 rw1742.length c1741), (1, .int .i64 a_1746), (2, .int .i64 m1747), (3, .int .i64 b_1748), (4, fnv 33 [] []), (18, .int .i64 mid2001), (19, .int .i64 n_2002), (20, .int .i64 start2009), (21, .int .i64 r2010), (22, .int .i64 p2008)] H [p1739, f1744] F a w ∧ (slices_symMergeCmpFunc_huff_packet__b6e1_7e8b.l10 K (slices_symMergeCmpFunc_huff_packet__b6e1_7e8b.r K d) data1738 a_1746 m1747 b_1748 mid2001 n_2002 p2008 k2011 start2009 r2010).wp kr kp) K ?_ ?_ ?_
      ·exact ⟨start2005, r2006, hS.to [0, 1] (by kernel_rfl) ⟨rfl, rfl, rfl, rfl, rfl, rfl, rfl, rfl, rfl, rfl, trivial⟩, hM⟩
      ·intro a w hI; obtain ⟨_, _, _, hM⟩ := hI; exact wp_fail hM
      ·intro k2011 a w hI J2031 hJ2031
       obtain ⟨start2009, r2010, hS, hM⟩ := hI
       rw [slices_symMergeCmpFunc_huff_packet__b6e1_7e8b.l10] at hM
       refine wp_seq <| wp_seq <| wp_region_list <| st1 hS (mv rfl) rfl fun a w hS => st1 hS (mv rfl) rfl fun a w hS => st1 hS (bin rfl rfl rfl) rfl fun a w hS => wpList_nil <| then_n <| s_cond hS rfl hM (fun hb2012 hM => ?_) (fun hb2012 hM => ?_)
       ·refine wp_skip ?_
        refine then_n <| wp_block <| wp_seq <| wp_region_list <| st1 hS (mv rfl) rfl fun a w hS => st1 hS (mv rfl) rfl fun a w hS => st1 hS (bin rfl rfl rfl) rfl fun a w hS => st1 hS (cvi rfl Try.runUnderlying3 Try.runUnderlying46) rfl fun a w hS => st1 hS (shr rfl rfl rfl) rfl fun a w hS => st1 hS (cvi rfl Try.runUnderlying46 Try.runUnderlying3) rfl fun a w hS => st1x (v := Value.int .i64) (x0 := (wr .i64 (ishr .u64 (wr .u64 (w64 (start2009 + r2010))) (1 : Int)))) hS (asg rfl) rfl fun c_2013 a w hz hS => ?_
        have hM := lt_to hz hM; clear hz
        refine wpList_nil <| then_n <| wp_seq ?_
        obtain ⟨hk2015, hM⟩ := wp_chk hM
        obtain ⟨A2016, c2017, hw2020, hp2018, hc2019⟩ := hr1743.get hk2015
        obtain ⟨hk2022, hM⟩ := wp_chk hM
        obtain ⟨A2023, c2024, hw2027, hp2025, hc2026⟩ := hr1743.get hk2022
        refine draw_begin (vals := [some (fnv 33 [] []), some (.slice A1740 rw1742.length c1741), some (.int .i64 p2008), some (.int .i64 c_2013), some (.int .i64 (w64 (p2008 - c_2013))), some (slp A1740 (Int.toNat (w64 (p2008 - c_2013)) * 2)), some (.agg ⟨[.int .i64 ((rd data1738 (w64 (p2008 - c_2013))).often_), .slice A2016 ((rd data1738 (w64 (p2008 - c_2013))).symbols_).length c2017]⟩), some (.slice A1740 rw1742.length c1741), some (.int .i64 c_2013), some (slp A1740 (Int.toNat c_2013 * 2)), some (.agg ⟨[.int .i64 ((rd data1738 c_2013).often_), .slice A2023 ((rd data1738 c_2013).symbols_).length c2024]⟩), none, none, none]) hS mixed rfl ?_
        intro l w ho hcl hA hst
        refine phq hA hst ho hcl navail nmust 11 [0, 1, 2, 3, 4, 5, 6, 7, 8, 9, 10] rfl rfl rfl rfl rfl (by exact ⟨nR rfl rfl rfl rfl rfl (by exact ovE (mv rfl) rfl), nR rfl rfl rfl rfl rfl (by exact ovE (mv rfl) rfl), nR rfl rfl rfl rfl rfl (by exact ovE (mv rfl) rfl), nR rfl rfl rfl rfl rfl (by exact ovE (mv rfl) rfl), nR rfl rfl rfl rfl rfl (by exact ovE (bin rfl rfl rfl) rfl), nR rfl rfl rfl rfl rfl (by exact ovE (ixV rfl rfl Try.runUnderlying68 Try.sizeOf70 (hV1745.rd (i := 1) rfl) Row.len rfl (hr1743.inb hk2015)) rfl), nR rfl rfl rfl rfl rfl (by exact ovE (ovE (ldVA rfl (hV1745.rd (i := 1) rfl) Row.len (hr1743.inb hk2015) Try.isAgg70 Try.sizeOf70 rfl) (congrArg (fun l => Value.agg ⟨l⟩) hw2020)) rfl), nR rfl rfl rfl rfl rfl (by exact ovE (mv rfl) rfl), nR rfl rfl rfl rfl rfl (by exact ovE (mv rfl) rfl), nR rfl rfl rfl rfl rfl (by exact ovE (ixV rfl rfl Try.runUnderlying68 Try.sizeOf70 (hV1745.rd (i := 1) rfl) Row.len rfl (hr1743.inb hk2022)) rfl), nR rfl rfl rfl rfl rfl (by exact ovE (ovE (ldVA rfl (hV1745.rd (i := 1) rfl) Row.len (hr1743.inb hk2022) Try.isAgg70 Try.sizeOf70 rfl) (congrArg (fun l => Value.agg ⟨l⟩) hw2027)) rfl), trivial⟩) fun D l a w ho hcl hav hpre hm hE hk hA hst => ?_
        have hS := (Ss.mk hE hst).env2 (e' := [(158, fnv 33 [] []), (164, .agg ⟨[.int .i64 ((rd data1738 (w64 (p2008 - c_2013))).often_), .slice A2016 ((rd data1738 (w64 (p2008 - c_2013))).symbols_).length c2017]⟩), (168, .agg ⟨[.int .i64 ((rd data1738 c_2013).often_), .slice A2023 ((rd data1738 c_2013).symbols_).length c2024]⟩)]) ⟨rfl, rfl, rfl, trivial⟩
        refine op_of_nth rfl <| s_callV hS rfl rfl Try.call33 (huff_Lengths_2_c hG K (T_huff_packet.mk ((rd data1738 (w64 (p2008 - c_2013))).often_) ((rd data1738 (w64 (p2008 - c_2013))).symbols_)) (T_huff_packet.mk ((rd data1738 c_2013).often_) ((rd data1738 c_2013).symbols_)) A2016 c2017 A2023 c2024 (hp2018.rdF (i := 0) rfl) hc2019 (hp2025.rdF (i := 0) rfl) hc2026 (hS.st.part 0 [0, 1] (by kernel_rfl)) (wp_bind hM) (fun x2028 w hM  hst => s_back hS.ev hst.appF rfl fun hS => ?_))
        replace hS : Ss _ _ _ H [p1739, f1744] F _ _ := hS
        refine wpList_nil (then_n ?_)
        replace hst := hS.st
        obtain ⟨hcl, hmust, hav2, hA⟩ := dn (vals' := [some (fnv 33 [] []), some (.slice A1740 rw1742.length c1741), some (.int .i64 p2008), some (.int .i64 c_2013), some (.int .i64 (w64 (p2008 - c_2013))), some (slp A1740 (Int.toNat (w64 (p2008 - c_2013)) * 2)), some (.agg ⟨[.int .i64 ((rd data1738 (w64 (p2008 - c_2013))).often_), .slice A2016 ((rd data1738 (w64 (p2008 - c_2013))).symbols_).length c2017]⟩), some (.slice A1740 rw1742.length c1741), some (.int .i64 c_2013), some (slp A1740 (Int.toNat c_2013 * 2)), some (.agg ⟨[.int .i64 ((rd data1738 c_2013).often_), .slice A2023 ((rd data1738 c_2013).symbols_).length c2024]⟩), some (.int .i64 x2028), some (.bool (decide (x2028 < (0 : Int)))), some (.bool (!(decide (x2028 < (0 : Int)))))]) 11 [(0, 11), (6, 11), (10, 11), (5, 6), (9, 10), (1, 5), (4, 5), (7, 9), (8, 9), (2, 4), (3, 4)] hA hcl hav hm hpre hk rfl rfl rfl rfl rfl rfl rfl
        clear hm hav
        refine phqE hA hst ho hcl hmust [12, 13] rfl rfl rfl (by exact ⟨nR rfl rfl rfl rfl rfl (by exact ovE (bin rfl rfl rfl) rfl), nR rfl rfl rfl rfl rfl (by exact ovE (un rfl rfl) rfl), trivial⟩) fun a w hS => ?_
        replace hS := hS.env2 (e' := [(0, .slice A1740 rw1742.length c1741), (1, .int .i64 a_1746), (2, .int .i64 m1747), (3, .int .i64 b_1748), (4, fnv 33 [] []), (18, .int .i64 mid2001), (19, .int .i64 n_2002), (20, .int .i64 start2009), (21, .int .i64 r2010), (22, .int .i64 p2008), (23, .int .i64 c_2013), (171, .bool (!(decide (x2028 < (0 : Int)))))]) ⟨rfl, rfl, rfl, rfl, rfl, rfl, rfl, rfl, rfl, rfl, rfl, rfl, trivial⟩
        refine then_n <| s_cond hS rfl hM (fun hb2029 hM => ?_) (fun hb2029 hM => ?_)
        ·refine wp_region_list ?_
         refine st1 hS (mv rfl) rfl fun a w hS => st1 hS (bin rfl rfl rfl) rfl fun a w hS => st1x (v := Value.int .i64) (x0 := (w64 (c_2013 + (1 : Int)))) hS (asg rfl) rfl fun start2030 a w hz hS => ?_
         have hM := lt_to hz hM; clear hz
         refine wpList_nil <| blk_n (then_n ?_)
         exact hJ2031 _ _ ⟨start2030, r2010, hS.to [0, 1] (by kernel_rfl) ⟨rfl, rfl, rfl, rfl, rfl, rfl, rfl, rfl, rfl, rfl, trivial⟩, hM⟩
        ·refine wp_region_list ?_
         refine st1 hS (mv rfl) rfl fun a w hS => st1 hS (asg rfl) rfl fun a w hS => wpList_nil <| blk_n (then_n ?_)
         exact hJ2031 _ _ ⟨start2009, c_2013, hS.to [0, 1] (by kernel_rfl) ⟨rfl, rfl, rfl, rfl, rfl, rfl, rfl, rfl, rfl, rfl, trivial⟩, hM⟩
       ·refine wp_exit ?_
        refine then_ex (then_ex (blk_same (then_n ?_)))
        exact hJ2033 _ _ ⟨start2009, hS.to [0, 1] (by kernel_rfl) ⟨rfl, rfl, rfl, rfl, rfl, rfl, rfl, rfl, trivial⟩, hM⟩
     ·intro a w hI
      obtain ⟨start2032, hS, hM⟩ := hI
      rw [slices_symMergeCmpFunc_huff_packet__b6e1_7e8b.j11] at hM
      refine wp_seq <| wp_region_list <| st1 hS (mv rfl) rfl fun a w hS => st1 hS (mv rfl) rfl fun a w hS => st1 hS (bin rfl rfl rfl) rfl fun a w hS => st1x (v := Value.int .i64) (x0 := (w64 (n_2002 - start2032))) hS (asg rfl) rfl fun end_2034 a w hz hS => ?_
      have hM := lt_to hz hM; clear hz
      refine wpList_nil <| then_n <| seq_joinJ (fun a w => ∃ (rw2043 : List (Row 2)) (data2044 : (List T_huff_packet)) (f2045 : Frag), Ss 220 [] [(0, .slice A1740 rw2043.length c1741), (1, .int .i64 a_1746), (3, .int .i64 b_1748), (4, fnv 33 [] []), (18, .int .i64 mid2001), (20, .int .i64 start2032), (24, .int .i64 end_2034)] H [p1739, f2045] F a w ∧ (Vec 70 (Row.v (sz := 2)) 2 A1740 rw2043 c1741 f2045) ∧ (RelL (R_huff_packet p1739) data2044 rw2043) ∧ (rw2043.length = rw1742.length) ∧ (slices_symMergeCmpFunc_huff_packet__b6e1_7e8b.j12 K (slices_symMergeCmpFunc_huff_packet__b6e1_7e8b.r K d) a_1746 b_1748 mid2001 start2032 end_2034 data2044).wp kr kp) (fun J2049 hJ2049 => ?_) ?_
      ·refine wp_seq ?_
       refine wp_region_list <| st1 hS (mv rfl) rfl fun a w hS => st1 hS (mv rfl) rfl fun a w hS => st1 hS (bin rfl rfl rfl) rfl fun a w hS => st1 hS (mv rfl) rfl fun a w hS => g_op 3 true 181 (b := (decide (start2032 < m1747))) (r := (decide (m1747 < end_2034))) hS rfl rfl rfl rfl rfl rfl rfl (fun hb a w hS K hK => ?_) rfl fun a w hS => ?_
       ·refine st1g hS rfl rfl rfl hb (mv rfl) rfl fun a w hS => ?_
        refine st1g hS rfl rfl rfl hb (mv rfl) rfl fun a w hS => st1g hS rfl rfl rfl hb (bin rfl rfl rfl) rfl fun a w hS => ?_
        exact wpList_nil (hK _ _ (hS.up 3 rfl rfl))
       refine wpList_nil <| then_n <| s_cond hS rfl hM (fun hb2035 hM => ?_) (fun hb2035 hM => ?_)
       ·refine wp_region_list ?_
        refine st1 hS (mv rfl) rfl fun a w hS => st1 hS (mv rfl) rfl fun a w hS => st1 hS (mv rfl) rfl fun a w hS => st1 hS (mv rfl) rfl fun a w hS => st1 hS (mv rfl) rfl fun a w hS => s_call hS rfl Try.call47 (slices_rotateCmpFunc_huff_packet__b6e1_7e8b_c hG K data1738 start2032 m1747 end_2034 p1739 A1740 c1741 rw1742 f1744 hr1743 hV1745 (hS.st.part 2 [0, 1] (by kernel_rfl)) (wp_bind hM) (fun rw2036 data2037 f2038 w hM h2039 h2040 h2041 hst => s_back hS.ev hst.appF rfl fun hS => ?_))
        replace hS : Ss _ _ _ H [p1739, f2038] F _ _ := hS
        have hz2042 := Eq.trans h2041 hz1750
        replace hS := hS.re 0 (u := .slice A1740 rw1742.length c1741) (v := .slice A1740 rw2036.length c1741) rfl (by rw [h2041])
        replace hS := hS.re 186 (u := .slice A1740 rw1742.length c1741) (v := .slice A1740 rw2036.length c1741) rfl (by rw [h2041])
        refine wpList_nil <| then_n ?_
        exact hJ2049 _ _ ⟨rw2036, data2037, f2038, hS.to [0, 1] (by kernel_rfl) ⟨rfl, rfl, rfl, rfl, rfl, rfl, rfl, trivial⟩, h2039, h2040, hz2042, hM⟩
       ·refine wp_skip ?_
        refine then_n ?_
        exact hJ2049 _ _ ⟨rw1742, data1738, f1744, hS.to [0, 1] (by kernel_rfl) ⟨rfl, rfl, rfl, rfl, rfl, rfl, rfl, trivial⟩, hV1745, hr1743, hz1750, hM⟩
      ·intro a w hI
       obtain ⟨rw2043, data2044, f2045, hS, hV2046, hr2047, hz2048, hM⟩ := hI
       rw [slices_symMergeCmpFunc_huff_packet__b6e1_7e8b.j12] at hM
       refine seq_joinJ (fun a w => ∃ (rw2058 : List (Row 2)) (data2059 : (List T_huff_packet)) (f2060 : Frag), Ss 220 [] [(0, .slice A1740 rw2058.length c1741), (3, .int .i64 b_1748), (4, fnv 33 [] []), (18, .int .i64 mid2001), (24, .int .i64 end_2034)] H [p1739, f2060] F a w ∧ (Vec 70 (Row.v (sz := 2)) 2 A1740 rw2058 c1741 f2060) ∧ (RelL (R_huff_packet p1739) data2059 rw2058) ∧ (rw2058.length = rw1742.length) ∧ (slices_symMergeCmpFunc_huff_packet__b6e1_7e8b.j13 K (slices_symMergeCmpFunc_huff_packet__b6e1_7e8b.r K d) b_1748 mid2001 end_2034 data2059).wp kr kp) (fun J2064 hJ2064 => ?_) ?_
       ·refine wp_seq ?_
        refine wp_region_list <| st1 hS (mv rfl) rfl fun a w hS => st1 hS (mv rfl) rfl fun a w hS => st1 hS (bin rfl rfl rfl) rfl fun a w hS => st1 hS (mv rfl) rfl fun a w hS => g_op 3 true 195 (b := (decide (a_1746 < start2032))) (r := (decide (start2032 < mid2001))) hS rfl rfl rfl rfl rfl rfl rfl (fun hb a w hS K hK => ?_) rfl fun a w hS => ?_
        ·refine st1g hS rfl rfl rfl hb (mv rfl) rfl fun a w hS => ?_
         refine st1g hS rfl rfl rfl hb (mv rfl) rfl fun a w hS => st1g hS rfl rfl rfl hb (bin rfl rfl rfl) rfl fun a w hS => ?_
         exact wpList_nil (hK _ _ (hS.up 3 rfl rfl))
        refine wpList_nil <| then_n <| s_cond hS rfl hM (fun hb2050 hM => ?_) (fun hb2050 hM => ?_)
        ·refine wp_region_list ?_
         refine st1 hS (mv rfl) rfl fun a w hS => st1 hS (mv rfl) rfl fun a w hS => st1 hS (mv rfl) rfl fun a w hS => st1 hS (mv rfl) rfl fun a w hS => st1 hS (mv rfl) rfl fun a w hS => s_call hS rfl Try.call44 (ih hG  data2044 a_1746 start2032 mid2001 p1739 A1740 c1741 rw2043 f2045 hr2047 hV2046 (hS.st.part 2 [0, 1] (by kernel_rfl)) (wp_bind hM) (fun rw2051 data2052 f2053 w hM h2054 h2055 h2056 hst => s_back hS.ev hst.appF rfl fun hS => ?_))
         replace hS : Ss _ _ _ H [p1739, f2053] F _ _ := hS
         have hz2057 := Eq.trans h2056 hz2048
         replace hS := hS.re 0 (u := .slice A1740 rw2043.length c1741) (v := .slice A1740 rw2051.length c1741) rfl (by rw [h2056])
         replace hS := hS.re 200 (u := .slice A1740 rw2043.length c1741) (v := .slice A1740 rw2051.length c1741) rfl (by rw [h2056])
         refine wpList_nil <| then_n ?_
         exact hJ2064 _ _ ⟨rw2051, data2052, f2053, hS.to [0, 1] (by kernel_rfl) ⟨rfl, rfl, rfl, rfl, rfl, trivial⟩, h2054, h2055, hz2057, hM⟩
        ·refine wp_skip ?_
         refine then_n ?_
         exact hJ2064 _ _ ⟨rw2043, data2044, f2045, hS.to [0, 1] (by kernel_rfl) ⟨rfl, rfl, rfl, rfl, rfl, trivial⟩, hV2046, hr2047, hz2048, hM⟩
       ·intro a w hI
        obtain ⟨rw2058, data2059, f2060, hS, hV2061, hr2062, hz2063, hM⟩ := hI
        rw [slices_symMergeCmpFunc_huff_packet__b6e1_7e8b.j13] at hM
        refine wp_seq <| wp_region_list <| st1 hS (mv rfl) rfl fun a w hS => st1 hS (mv rfl) rfl fun a w hS => st1 hS (bin rfl rfl rfl) rfl fun a w hS => st1 hS (mv rfl) rfl fun a w hS => g_op 3 true 209 (b := (decide (mid2001 < end_2034))) (r := (decide (end_2034 < b_1748))) hS rfl rfl rfl rfl rfl rfl rfl (fun hb a w hS K hK => ?_) rfl fun a w hS => ?_
        ·refine st1g hS rfl rfl rfl hb (mv rfl) rfl fun a w hS => ?_
         refine st1g hS rfl rfl rfl hb (mv rfl) rfl fun a w hS => st1g hS rfl rfl rfl hb (bin rfl rfl rfl) rfl fun a w hS => ?_
         exact wpList_nil (hK _ _ (hS.up 3 rfl rfl))
        refine wpList_nil <| then_n <| s_cond hS rfl hM (fun hb2065 hM => ?_) (fun hb2065 hM => ?_)
        ·refine wp_region_list ?_
         refine st1 hS (mv rfl) rfl fun a w hS => st1 hS (mv rfl) rfl fun a w hS => st1 hS (mv rfl) rfl fun a w hS => st1 hS (mv rfl) rfl fun a w hS => st1 hS (mv rfl) rfl fun a w hS => s_call hS rfl Try.call44 (ih hG  data2059 mid2001 end_2034 b_1748 p1739 A1740 c1741 rw2058 f2060 hr2062 hV2061 (hS.st.part 2 [0, 1] (by kernel_rfl)) (wp_bind hM) (fun rw2066 data2067 f2068 w hM h2069 h2070 h2071 hst => s_back hS.ev hst.appF rfl fun hS => ?_))
         replace hS : Ss _ _ _ H [p1739, f2068] F _ _ := hS
         have hz2072 := Eq.trans h2071 hz2063
         replace hS := hS.re 0 (u := .slice A1740 rw2058.length c1741) (v := .slice A1740 rw2066.length c1741) rfl (by rw [h2071])
         replace hS := hS.re 214 (u := .slice A1740 rw2058.length c1741) (v := .slice A1740 rw2066.length c1741) rfl (by rw [h2071])
         refine wpList_nil ?_
         exact s_end (rs := []) hS rfl rfl (hret rw2066 data2067 f2068 w (wp_ok hM) h2069 h2070 hz2072 (hS.st.pick [0, 1] (by kernel_rfl)))
        ·refine wp_skip ?_
         exact s_end (rs := []) hS rfl rfl (hret rw2058 data2059 f2060 w (wp_ok hM) hV2061 hr2062 hz2063 (hS.st.pick [0, 1] (by kernel_rfl)))

theorem slices_symMergeCmpFunc_huff_packet__b6e1_7e8b_c {H : Imm} {F : List Frag} {w : World} {R : Ending → World → Prop} {kr : (List T_huff_packet) → Prop} {kp : Value → Prop} (hG : Gl H) (K : Nat) (data1738 : List T_huff_packet) (a_1746 : Int) (m1747 : Int) (b_1748 : Int) (p1739 : Frag) (A1740 : Option Addr) (c1741 : Nat) (rw1742 : List (Row 2)) (f1744 : Frag) (hr1743 : RelL (R_huff_packet p1739) data1738 rw1742) (hV1745 : Vec 70 (Row.v (sz := 2)) 2 A1740 rw1742 c1741 f1744)
    (hS : St w H [p1739, f1744] F) (hm : (slices_symMergeCmpFunc_huff_packet__b6e1_7e8b.m K data1738 a_1746 m1747 b_1748).wp kr kp)
    (hret : ∀ (rw2073 : List (Row 2)) (data2074 : (List T_huff_packet)) (f2075 : Frag) (w : World), kr data2074 → (Vec 70 (Row.v (sz := 2)) 2 A1740 rw2073 c1741 f2075) → (RelL (R_huff_packet p1739) data2074 rw2073) → (rw2073.length = rw1742.length) → St w H [p1739, f2075] F → R (.returned (.tuple ⟨[]⟩)) w) :
    Calls Try.prog 44 ⟨[.slice A1740 rw1742.length c1741, .int .i64 a_1746, .int .i64 m1747, .int .i64 b_1748, fnv 33 [] []]⟩ w R := slices_symMergeCmpFunc_huff_packet__b6e1_7e8b_cr K K hG data1738 a_1746 m1747 b_1748 p1739 A1740 c1741 rw1742 f1744 hr1743 hV1745 hS hm hret

theorem slices_stableCmpFunc_huff_packet__b6e1_8977_c {H : Imm} {F : List Frag} {w : World} {R : Ending → World → Prop} {kr : (List T_huff_packet) → Prop} {kp : Value → Prop} (hG : Gl H) (K : Nat) (data793 : List T_huff_packet) (n_801 : Int) (p794 : Frag) (A795 : Option Addr) (c796 : Nat) (rw797 : List (Row 2)) (f799 : Frag) (hr798 : RelL (R_huff_packet p794) data793 rw797) (hV800 : Vec 70 (Row.v (sz := 2)) 2 A795 rw797 c796 f799)
    (hS : St w H [p794, f799] F) (hm : (slices_stableCmpFunc_huff_packet__b6e1_8977.m K data793 n_801).wp kr kp)
    (hret : ∀ (rw2209 : List (Row 2)) (data2210 : (List T_huff_packet)) (f2211 : Frag) (w : World), kr data2210 → (Vec 70 (Row.v (sz := 2)) 2 A795 rw2209 c796 f2211) → (RelL (R_huff_packet p794) data2210 rw2209) → (rw2209.length = rw797.length) → St w H [p794, f2211] F → R (.returned (.tuple ⟨[]⟩)) w) :
    Calls Try.prog 38 ⟨[.slice A795 rw797.length c796, .int .i64 n_801, fnv 33 [] []]⟩ w R := by
 refine enter Try.func38 rfl Try.ntmps38 rfl hS fun a w hS => ?_
 have hM := hm; clear hm
 rw [slices_stableCmpFunc_huff_packet__b6e1_8977.m] at hM
 have hs802 : ∀ q ∈ p794, q ∈ p794 := fun _ h => h
 have hz803 : rw797.length = rw797.length := rfl
 refine wp_seq <| wp_region_list <| st1 hS (asg rfl) rfl fun a w hS => wpList_nil <| then_n <| wp_seq <| wp_region_list <| st1 hS (mv rfl) rfl fun a w hS => st1 hS (asg rfl) rfl fun a w hS => st1 hS (asg rfl) rfl fun a w hS => wpList_nil <| then_n <| seq_joinJ (fun a w => ∃ (rw1185 : List (Row 2)) (data1186 : (List T_huff_packet)) (f1187 : Frag) (a_1191 : Int), Ss 63 [] [(0, .slice A795 rw1185.length c796), (1, .int .i64 n_801), (2, fnv 33 [] []), (6, .int .i64 (20 : Int)), (7, .int .i64 a_1191)] H [p794, f1187] F a w ∧ (Vec 70 (Row.v (sz := 2)) 2 A795 rw1185 c796 f1187) ∧ (RelL (R_huff_packet p794) data1186 rw1185) ∧ (rw1185.length = rw797.length) ∧ (slices_stableCmpFunc_huff_packet__b6e1_8977.j2 K n_801 data1186 a_1191).wp kr kp) (fun J1192 hJ1192 => ?_) ?_
 ·refine wp_block ?_
  refine s_loopJ (fun k1174 a w => ∃ (rw1166 : List (Row 2)) (data1167 : (List T_huff_packet)) (f1168 : Frag) (a_1172 : Int) (b_1173 : Int), Ss 63 [] [(0, .slice A795 rw1166.length c796), (1, .int .i64 n_801), (2, fnv 33 [] []), (6, .int .i64 (20 : Int)), (7, .int .i64 a_1172), (8, .int .i64 b_1173)] H [p794, f1168] F a w ∧ (Vec 70 (Row.v (sz := 2)) 2 A795 rw1166 c796 f1168) ∧ (RelL (R_huff_packet p794) data1167 rw1166) ∧ (rw1166.length = rw797.length) ∧ (slices_stableCmpFunc_huff_packet__b6e1_8977.l1 K n_801 k1174 data1167 a_1172 b_1173).wp kr kp) K ?_ ?_ ?_
  ·exact ⟨rw797, data793, f799, (0 : Int), (20 : Int), hS.to [0, 1] (by kernel_rfl) ⟨rfl, rfl, rfl, rfl, rfl, rfl, trivial⟩, hV800, hr798, hz803, hM⟩
  ·intro a w hI; obtain ⟨_, _, _, _, _, _, _, _, _, hM⟩ := hI; exact wp_fail hM
  ·intro k1174 a w hI J1184 hJ1184
   obtain ⟨rw1166, data1167, f1168, a_1172, b_1173, hS, hV1169, hr1170, hz1171, hM⟩ := hI
   rw [slices_stableCmpFunc_huff_packet__b6e1_8977.l1] at hM
   refine wp_seq <| wp_seq <| wp_region_list <| st1 hS (mv rfl) rfl fun a w hS => st1 hS (mv rfl) rfl fun a w hS => st1 hS (bin rfl rfl rfl) rfl fun a w hS => wpList_nil <| then_n <| s_cond hS rfl hM (fun hb1175 hM => ?_) (fun hb1175 hM => ?_)
   ·refine wp_skip ?_
    refine then_n <| wp_block <| wp_seq <| wp_region_list <| st1 hS (mv rfl) rfl fun a w hS => st1 hS (mv rfl) rfl fun a w hS => st1 hS (mv rfl) rfl fun a w hS => st1 hS (mv rfl) rfl fun a w hS => s_call hS rfl Try.call43 (slices_insertionSortCmpFunc_huff_packet__b6e1_5de2_c hG K data1167 a_1172 b_1173 p794 A795 c796 rw1166 f1168 hr1170 hV1169 (hS.st.part 2 [0, 1] (by kernel_rfl)) (wp_bind hM) (fun rw1176 data1177 f1178 w hM h1179 h1180 h1181 hst => s_back hS.ev hst.appF rfl fun hS => ?_))
    replace hS : Ss _ _ _ H [p794, f1178] F _ _ := hS
    have hz1182 := Eq.trans h1181 hz1171
    replace hS := hS.re 0 (u := .slice A795 rw1166.length c796) (v := .slice A795 rw1176.length c796) rfl (by rw [h1181])
    replace hS := hS.re 14 (u := .slice A795 rw1166.length c796) (v := .slice A795 rw1176.length c796) rfl (by rw [h1181])
    refine wpList_nil <| then_n <| wp_seq <| wp_region_list <| st1 hS (mv rfl) rfl fun a w hS => st1 hS (asg rfl) rfl fun a w hS => wpList_nil <| then_n <| wp_region_list <| st1 hS (mv rfl) rfl fun a w hS => st1 hS (mv rfl) rfl fun a w hS => st1 hS (bin rfl rfl rfl) rfl fun a w hS => st1x (v := Value.int .i64) (x0 := (w64 (b_1173 + (20 : Int)))) hS (asg rfl) rfl fun b_1183 a w hz hS => ?_
    have hM := lt_to hz hM; clear hz
    refine wpList_nil <| blk_n (then_n ?_)
    exact hJ1184 _ _ ⟨rw1176, data1177, f1178, b_1173, b_1183, hS.to [0, 1] (by kernel_rfl) ⟨rfl, rfl, rfl, rfl, rfl, rfl, trivial⟩, h1179, h1180, hz1182, hM⟩
   ·refine wp_exit ?_
    refine then_ex (then_ex (blk_same (then_n ?_)))
    exact hJ1192 _ _ ⟨rw1166, data1167, f1168, a_1172, hS.to [0, 1] (by kernel_rfl) ⟨rfl, rfl, rfl, rfl, rfl, trivial⟩, hV1169, hr1170, hz1171, hM⟩
 ·intro a w hI
  obtain ⟨rw1185, data1186, f1187, a_1191, hS, hV1188, hr1189, hz1190, hM⟩ := hI
  rw [slices_stableCmpFunc_huff_packet__b6e1_8977.j2] at hM
  refine wp_seq <| wp_region_list <| st1 hS (mv rfl) rfl fun a w hS => st1 hS (mv rfl) rfl fun a w hS => st1 hS (mv rfl) rfl fun a w hS => st1 hS (mv rfl) rfl fun a w hS => s_call hS rfl Try.call43 (slices_insertionSortCmpFunc_huff_packet__b6e1_5de2_c hG K data1186 a_1191 n_801 p794 A795 c796 rw1185 f1187 hr1189 hV1188 (hS.st.part 2 [0, 1] (by kernel_rfl)) (wp_bind hM) (fun rw1193 data1194 f1195 w hM h1196 h1197 h1198 hst => s_back hS.ev hst.appF rfl fun hS => ?_))
  replace hS : Ss _ _ _ H [p794, f1195] F _ _ := hS
  have hz1199 := Eq.trans h1198 hz1190
  replace hS := hS.re 0 (u := .slice A795 rw1185.length c796) (v := .slice A795 rw1193.length c796) rfl (by rw [h1198])
  replace hS := hS.re 23 (u := .slice A795 rw1185.length c796) (v := .slice A795 rw1193.length c796) rfl (by rw [h1198])
  refine wpList_nil <| then_n <| wp_block <| s_loopJ (fun k2147 a w => ∃ (rw2140 : List (Row 2)) (data2141 : (List T_huff_packet)) (f2142 : Frag) (blockSize2146 : Int), Ss 63 [] [(0, .slice A795 rw2140.length c796), (1, .int .i64 n_801), (2, fnv 33 [] []), (6, .int .i64 blockSize2146)] H [p794, f2142] F a w ∧ (Vec 70 (Row.v (sz := 2)) 2 A795 rw2140 c796 f2142) ∧ (RelL (R_huff_packet p794) data2141 rw2140) ∧ (rw2140.length = rw797.length) ∧ (slices_stableCmpFunc_huff_packet__b6e1_8977.l3 K n_801 k2147 data2141 blockSize2146).wp kr kp) K ?_ ?_ ?_
  ·exact ⟨rw1193, data1194, f1195, (20 : Int), hS.to [0, 1] (by kernel_rfl) ⟨rfl, rfl, rfl, rfl, trivial⟩, h1196, h1197, hz1199, hM⟩
  ·intro a w hI; obtain ⟨_, _, _, _, _, _, _, _, hM⟩ := hI; exact wp_fail hM
  ·intro k2147 a w hI J2208 hJ2208
   obtain ⟨rw2140, data2141, f2142, blockSize2146, hS, hV2143, hr2144, hz2145, hM⟩ := hI
   rw [slices_stableCmpFunc_huff_packet__b6e1_8977.l3] at hM
   refine wp_seq <| wp_seq <| wp_region_list <| st1 hS (mv rfl) rfl fun a w hS => st1 hS (mv rfl) rfl fun a w hS => st1 hS (bin rfl rfl rfl) rfl fun a w hS => wpList_nil <| then_n <| s_cond hS rfl hM (fun hb2148 hM => ?_) (fun hb2148 hM => ?_)
   ·refine wp_skip ?_
    refine then_n <| wp_block <| wp_seq <| wp_region_list <| st1 hS (mv rfl) rfl fun a w hS => st1 hS (bin rfl rfl rfl) rfl fun a w hS => st1 hS (asg rfl) rfl fun a w hS => st1x (v := Value.int .i64) (x0 := (w64 ((2 : Int) * blockSize2146))) hS (asg rfl) rfl fun b_2149 a w hz hS => ?_
    have hM := lt_to hz hM; clear hz
    refine wpList_nil <| then_n <| seq_joinJ (fun a w => ∃ (rw2189 : List (Row 2)) (data2190 : (List T_huff_packet)) (f2191 : Frag) (a_2195 : Int), Ss 63 [] [(0, .slice A795 rw2189.length c796), (1, .int .i64 n_801), (2, fnv 33 [] []), (6, .int .i64 blockSize2146), (7, .int .i64 a_2195)] H [p794, f2191] F a w ∧ (Vec 70 (Row.v (sz := 2)) 2 A795 rw2189 c796 f2191) ∧ (RelL (R_huff_packet p794) data2190 rw2189) ∧ (rw2189.length = rw797.length) ∧ (slices_stableCmpFunc_huff_packet__b6e1_8977.j5 K (slices_stableCmpFunc_huff_packet__b6e1_8977.l3 K n_801 k2147) n_801 blockSize2146 data2190 a_2195).wp kr kp) (fun J2196 hJ2196 => ?_) ?_
    ·refine wp_block ?_
     refine s_loopJ (fun k2178 a w => ∃ (rw2170 : List (Row 2)) (data2171 : (List T_huff_packet)) (f2172 : Frag) (a_2176 : Int) (b_2177 : Int), Ss 63 [] [(0, .slice A795 rw2170.length c796), (1, .int .i64 n_801), (2, fnv 33 [] []), (6, .int .i64 blockSize2146), (7, .int .i64 a_2176), (8, .int .i64 b_2177)] H [p794, f2172] F a w ∧ (Vec 70 (Row.v (sz := 2)) 2 A795 rw2170 c796 f2172) ∧ (RelL (R_huff_packet p794) data2171 rw2170) ∧ (rw2170.length = rw797.length) ∧ (slices_stableCmpFunc_huff_packet__b6e1_8977.l4 K (slices_stableCmpFunc_huff_packet__b6e1_8977.l3 K n_801 k2147) n_801 blockSize2146 k2178 data2171 a_2176 b_2177).wp kr kp) K ?_ ?_ ?_
     ·exact ⟨rw2140, data2141, f2142, (0 : Int), b_2149, hS.to [0, 1] (by kernel_rfl) ⟨rfl, rfl, rfl, rfl, rfl, rfl, trivial⟩, hV2143, hr2144, hz2145, hM⟩
     ·intro a w hI; obtain ⟨_, _, _, _, _, _, _, _, _, hM⟩ := hI; exact wp_fail hM
     ·intro k2178 a w hI J2188 hJ2188
      obtain ⟨rw2170, data2171, f2172, a_2176, b_2177, hS, hV2173, hr2174, hz2175, hM⟩ := hI
      rw [slices_stableCmpFunc_huff_packet__b6e1_8977.l4] at hM
      refine wp_seq <| wp_seq <| wp_region_list <| st1 hS (mv rfl) rfl fun a w hS => st1 hS (mv rfl) rfl fun a w hS => st1 hS (bin rfl rfl rfl) rfl fun a w hS => wpList_nil <| then_n <| s_cond hS rfl hM (fun hb2179 hM => ?_) (fun hb2179 hM => ?_)
      ·refine wp_skip ?_
       refine then_n <| wp_block <| wp_seq <| wp_region_list <| st1 hS (mv rfl) rfl fun a w hS => st1 hS (mv rfl) rfl fun a w hS => st1 hS (mv rfl) rfl fun a w hS => st1 hS (mv rfl) rfl fun a w hS => st1 hS (bin rfl rfl rfl) rfl fun a w hS => st1 hS (mv rfl) rfl fun a w hS => st1 hS (mv rfl) rfl fun a w hS => s_call hS rfl Try.call44 (slices_symMergeCmpFunc_huff_packet__b6e1_7e8b_c hG K data2171 a_2176 (w64 (a_2176 + blockSize2146)) b_2177 p794 A795 c796 rw2170 f2172 hr2174 hV2173 (hS.st.part 2 [0, 1] (by kernel_rfl)) (wp_bind hM) (fun rw2180 data2181 f2182 w hM h2183 h2184 h2185 hst => s_back hS.ev hst.appF rfl fun hS => ?_))
       replace hS : Ss _ _ _ H [p794, f2182] F _ _ := hS
       have hz2186 := Eq.trans h2185 hz2175
       replace hS := hS.re 0 (u := .slice A795 rw2170.length c796) (v := .slice A795 rw2180.length c796) rfl (by rw [h2185])
       replace hS := hS.re 36 (u := .slice A795 rw2170.length c796) (v := .slice A795 rw2180.length c796) rfl (by rw [h2185])
       refine wpList_nil <| then_n <| wp_seq <| wp_region_list <| st1 hS (mv rfl) rfl fun a w hS => st1 hS (asg rfl) rfl fun a w hS => wpList_nil <| then_n <| wp_region_list <| st1 hS (mv rfl) rfl fun a w hS => st1 hS (mv rfl) rfl fun a w hS => st1 hS (bin rfl rfl rfl) rfl fun a w hS => st1 hS (bin rfl rfl rfl) rfl fun a w hS => st1x (v := Value.int .i64) (x0 := (w64 (b_2177 + (w64 ((2 : Int) * blockSize2146))))) hS (asg rfl) rfl fun b_2187 a w hz hS => ?_
       have hM := lt_to hz hM; clear hz
       refine wpList_nil <| blk_n (then_n ?_)
       exact hJ2188 _ _ ⟨rw2180, data2181, f2182, b_2177, b_2187, hS.to [0, 1] (by kernel_rfl) ⟨rfl, rfl, rfl, rfl, rfl, rfl, trivial⟩, h2183, h2184, hz2186, hM⟩
      ·refine wp_exit ?_
       refine then_ex (then_ex (blk_same (then_n ?_)))
       exact hJ2196 _ _ ⟨rw2170, data2171, f2172, a_2176, hS.to [0, 1] (by kernel_rfl) ⟨rfl, rfl, rfl, rfl, rfl, trivial⟩, hV2173, hr2174, hz2175, hM⟩
    ·intro a w hI
     obtain ⟨rw2189, data2190, f2191, a_2195, hS, hV2192, hr2193, hz2194, hM⟩ := hI
     rw [slices_stableCmpFunc_huff_packet__b6e1_8977.j5] at hM
     refine wp_seq <| wp_seq <| wp_region_list <| st1 hS (mv rfl) rfl fun a w hS => st1 hS (mv rfl) rfl fun a w hS => st1 hS (bin rfl rfl rfl) rfl fun a w hS => st1x (v := Value.int .i64) (x0 := (w64 (a_2195 + blockSize2146))) hS (asg rfl) rfl fun m2197 a w hz hS => ?_
     have hM := lt_to hz hM; clear hz
     refine wpList_nil <| then_n <| wp_seq <| wp_region_list <| st1 hS (mv rfl) rfl fun a w hS => st1 hS (mv rfl) rfl fun a w hS => st1 hS (bin rfl rfl rfl) rfl fun a w hS => wpList_nil <| then_n <| s_cond hS rfl hM (fun hb2198 hM => ?_) (fun hb2198 hM => ?_)
     ·refine wp_region_list ?_
      refine st1 hS (mv rfl) rfl fun a w hS => st1 hS (mv rfl) rfl fun a w hS => st1 hS (mv rfl) rfl fun a w hS => st1 hS (mv rfl) rfl fun a w hS => st1 hS (mv rfl) rfl fun a w hS => s_call hS rfl Try.call44 (slices_symMergeCmpFunc_huff_packet__b6e1_7e8b_c hG K data2190 a_2195 m2197 n_801 p794 A795 c796 rw2189 f2191 hr2193 hV2192 (hS.st.part 2 [0, 1] (by kernel_rfl)) (wp_bind hM) (fun rw2199 data2200 f2201 w hM h2202 h2203 h2204 hst => s_back hS.ev hst.appF rfl fun hS => ?_))
      replace hS : Ss _ _ _ H [p794, f2201] F _ _ := hS
      have hz2205 := Eq.trans h2204 hz2194
      replace hS := hS.re 0 (u := .slice A795 rw2189.length c796) (v := .slice A795 rw2199.length c796) rfl (by rw [h2204])
      replace hS := hS.re 55 (u := .slice A795 rw2189.length c796) (v := .slice A795 rw2199.length c796) rfl (by rw [h2204])
      refine wpList_nil <| then_n <| wp_region_list <| st1 hS (mv rfl) rfl fun a w hS => st1 hS (bin rfl rfl rfl) rfl fun a w hS => st1x (v := Value.int .i64) (x0 := (w64 (blockSize2146 * (2 : Int)))) hS (asg rfl) rfl fun blockSize2206 a w hz hS => ?_
      have hM := lt_to hz hM; clear hz
      refine wpList_nil <| blk_n (then_n ?_)
      exact hJ2208 _ _ ⟨rw2199, data2200, f2201, blockSize2206, hS.to [0, 1] (by kernel_rfl) ⟨rfl, rfl, rfl, rfl, trivial⟩, h2202, h2203, hz2205, hM⟩
     ·refine wp_skip ?_
      refine then_n <| wp_region_list <| st1 hS (mv rfl) rfl fun a w hS => st1 hS (bin rfl rfl rfl) rfl fun a w hS => st1x (v := Value.int .i64) (x0 := (w64 (blockSize2146 * (2 : Int)))) hS (asg rfl) rfl fun blockSize2207 a w hz hS => ?_
      have hM := lt_to hz hM; clear hz
      refine wpList_nil <| blk_n (then_n ?_)
      exact hJ2208 _ _ ⟨rw2189, data2190, f2191, blockSize2207, hS.to [0, 1] (by kernel_rfl) ⟨rfl, rfl, rfl, rfl, trivial⟩, hV2192, hr2193, hz2194, hM⟩
   ·refine wp_exit ?_
    refine then_ex (then_ex (blk_same ?_))
    exact s_end (rs := []) hS rfl rfl (hret rw2140 data2141 f2142 w (wp_ok hM) hV2143 hr2144 hz2145 (hS.st.pick [0, 1] (by kernel_rfl)))

theorem slices_SortStableFunc___huff_packet_huff_packet__b6e1_f289_c {H : Imm} {F : List Frag} {w : World} {R : Ending → World → Prop} {kr : (List T_huff_packet) → Prop} {kp : Value → Prop} (hG : Gl H) (K : Nat) (x783 : List T_huff_packet) (p784 : Frag) (A785 : Option Addr) (c786 : Nat) (rw787 : List (Row 2)) (f789 : Frag) (hr788 : RelL (R_huff_packet p784) x783 rw787) (hV790 : Vec 70 (Row.v (sz := 2)) 2 A785 rw787 c786 f789)
    (hS : St w H [p784, f789] F) (hm : (slices_SortStableFunc___huff_packet_huff_packet__b6e1_f289.m K x783).wp kr kp)
    (hret : ∀ (rw2222 : List (Row 2)) (x2223 : (List T_huff_packet)) (f2224 : Frag) (w : World), kr x2223 → (Vec 70 (Row.v (sz := 2)) 2 A785 rw2222 c786 f2224) → (RelL (R_huff_packet p784) x2223 rw2222) → (rw2222.length = rw787.length) → St w H [p784, f2224] F → R (.returned (.tuple ⟨[]⟩)) w) :
    Calls Try.prog 32 ⟨[.slice A785 rw787.length c786, fnv 33 [] []]⟩ w R := by
 refine enter Try.func32 rfl Try.ntmps32 rfl hS fun a w hS => ?_
 have hM := hm; clear hm
 rw [slices_SortStableFunc___huff_packet_huff_packet__b6e1_f289.m] at hM
 have hs791 : ∀ q ∈ p784, q ∈ p784 := fun _ h => h
 have hz792 : rw787.length = rw787.length := rfl
 refine wp_region_list <| st1 hS (mv rfl) rfl fun a w hS => st1 hS (mv rfl) rfl fun a w hS => st1 hS (ovE (v' := .int .i64 (x783.length : Int)) (lenV rfl Try.runUnderlying68) (by rw [hr788.len])) rfl fun a w hS => st1 hS (mv rfl) rfl fun a w hS => s_call hS rfl Try.call38 (slices_stableCmpFunc_huff_packet__b6e1_8977_c hG K x783 (x783.length : Int) p784 A785 c786 rw787 f789 hr788 hV790 (hS.st.part 2 [0, 1] (by kernel_rfl)) (wp_bind hM) (fun rw2215 data2216 f2217 w hM h2218 h2219 h2220 hst => s_back hS.ev hst.appF rfl fun hS => ?_))
 replace hS : Ss _ _ _ H [p784, f2217] F _ _ := hS
 have hz2221 := Eq.trans h2220 hz792
 replace hS := hS.re 0 (u := .slice A785 rw787.length c786) (v := .slice A785 rw2215.length c786) rfl (by rw [h2220])
 replace hS := hS.re 4 (u := .slice A785 rw787.length c786) (v := .slice A785 rw2215.length c786) rfl (by rw [h2220])
 replace hS := hS.re 5 (u := .slice A785 rw787.length c786) (v := .slice A785 rw2215.length c786) rfl (by rw [h2220])
 refine wpList_nil ?_
 exact s_end (rs := []) hS rfl rfl (hret rw2215 data2216 f2217 w (wp_ok hM) h2218 h2219 hz2221 (hS.st.pick [0, 1] (by kernel_rfl)))

def R_s_int (p : Frag) (x : (List Int)) (vs : List Value) : Prop :=
  ∃ (A0 : Option Addr) (c0 : Nat), vs = [.slice A0 x.length c0] ∧ Pl p (ci .i64) A0 x ∧ x.length ≤ c0
theorem R_s_int.mono {p p' : Frag} (hs : ∀ q ∈ p, q ∈ p') {x : (List Int)} {vs : List Value} (h : R_s_int p x vs) : R_s_int p' x vs := by
  obtain ⟨A0, c0, h0, h1, h2⟩ := h
  exact ⟨A0, c0, h0, h1.mono hs, h2⟩

theorem slices_Grow___int_int__f5f7_c {H : Imm} {F : List Frag} {w : World} {R : Ending → World → Prop} {kr : Unit → Prop} {kp : Value → Prop} (hG : Gl H) (K : Nat) (n_2321 : Int)
    (hS : St w H [] F) (hm : (slices_Grow___int_int__f5f7.m K n_2321).wp kr kp)
    (hret : ∀ (A2336 : Option Addr) (c2337 : Nat) (f2338 : Frag) (w : World), kr () → (Vec 3 (ci .i64) 1 A2336 ([] : List Int) c2337 f2338) → St w H [f2338] F → R (.returned (.slice A2336 ([] : List Int).length c2337)) w)
    (hpan : ∀ v w, kp v → St w H [] F → R (.panicked [⟨v, false, false⟩]) w) :
    Calls Try.prog 46 ⟨[.slice none 0 0, .int .i64 n_2321]⟩ w R := by
 refine enter Try.func46 rfl Try.ntmps46 rfl hS fun a w hS => ?_
 have hM := hm; clear hm
 rw [slices_Grow___int_int__f5f7.m] at hM
 refine wp_seq <| wp_region_list <| st1 hS (asg rfl) rfl fun a w hS => ?_
 obtain ⟨f2322, hV2323, hS⟩ := hS.nilV 3 (ci .i64) 1
 refine wpList_nil <| then_n <| wp_seq <| wp_seq <| wp_region_list <| st1 hS (mv rfl) rfl fun a w hS => st1 hS (bin rfl rfl rfl) rfl fun a w hS => wpList_nil <| then_n <| s_cond hS rfl hM (fun hb2324 hM => ?_) (fun hb2324 hM => ?_)
 ·refine wp_region_list ?_
  refine st1 hS (mkI rfl Try.runUnderlying9 rfl) rfl fun a w hS => s_panic hS rfl <| then_pan ?_
  exact ⟨hS.ev.defs, hpan _ _ (wp_pan hM) hS.st.frame⟩
 ·refine wp_skip ?_
  refine then_n <| wp_seq <| wp_seq <| wp_region_list <| st1 hS (mv rfl) rfl fun a w hS => st1 hS (mv rfl) rfl fun a w hS => st1 hS (capN rfl Try.runUnderlying22) rfl fun a w hS => st1 hS (mv rfl) rfl fun a w hS => st1 hS (lenV rfl Try.runUnderlying22) rfl fun a w hS => st1 hS (bin rfl rfl rfl) rfl fun a w hS => st1 hS (bin rfl rfl rfl) rfl fun a w hS => st1x (v := Value.int .i64) (x0 := (w64 (n_2321 - (w64 ((0 : Int) - (0 : Int)))))) hS (asg rfl) rfl fun n_2325 a w hz hS => ?_
  have hM := lt_to hz hM; clear hz
  refine wpList_nil <| then_n <| wp_seq <| wp_region_list <| st1 hS (mv rfl) rfl fun a w hS => st1 hS (bin rfl rfl rfl) rfl fun a w hS => wpList_nil <| then_n <| s_cond hS rfl hM (fun hb2326 hM => ?_) (fun hb2326 hM => ?_)
  ·refine wp_region_list ?_
   refine st1 hS (mv rfl) rfl fun a w hS => st1 hS (mv rfl) rfl fun a w hS => st1 hS (capN rfl Try.runUnderlying22) rfl fun a w hS => st1 hS (slN rfl Try.runUnderlying22 Try.sizeOf3 (hiS rfl)) rfl fun a w hS => st1 hS (mv rfl) rfl fun a w hS => ?_
   obtain ⟨hk2327, hM⟩ := wp_chk hM
   refine apG (g := (ci .i64)) hS rfl rfl Try.runUnderlying22 Try.runUnderlying3 X.el3 rfl rfl hk2327 rfl fun w A2328 c2329 f2330 hV2331 hc2332 hA2333 hS => st1 hS (mv rfl) rfl fun a w hS => st1 hS (lenV rfl Try.runUnderlying22) rfl fun a w hS => st1 hS (slG rfl Try.runUnderlying22 Try.sizeOf3 (fun _ => hiS rfl) hc2332 hA2333) rfl fun a w hS => st1 hS (asg rfl) rfl fun a w hS => wpList_nil <| then_n <| wp_seq <| wp_region_list <| st1 hS (mv rfl) rfl fun a w hS => st1 hS (asg rfl) rfl fun a w hS => wpList_nil <| then_n <| wp_ret ?_
   exact s_ret (rs := [4]) hS rfl rfl (hret A2328 c2329 f2330 w (wp_ok hM) hV2331 (hS.st.pick [0] (by kernel_rfl)))
  ·refine wp_skip ?_
   refine then_n <| wp_seq <| wp_region_list <| st1 hS (mv rfl) rfl fun a w hS => st1 hS (asg rfl) rfl fun a w hS => ?_
   obtain ⟨f2334, hV2335, hS⟩ := hS.nilV 3 (ci .i64) 1
   refine wpList_nil <| then_n <| wp_ret ?_
   exact s_ret (rs := [4]) hS rfl rfl (hret none (0) f2334 w (wp_ok hM) hV2335 (hS.st.pick [0] (by kernel_rfl)))

theorem slices_Concat___int_int__c {H : Imm} {F : List Frag} {w : World} {R : Ending → World → Prop} {kr : (List Int) → Prop} {kp : Value → Prop} (hG : Gl H) (K : Nat) (slices2295 : List (List Int)) (p2296 : Frag) (A2297 : Option Addr) (c2298 : Nat) (rw2299 : List (Row 1)) (hr2300 : RelL (R_s_int p2296) slices2295 rw2299) (hp2301 : Pl p2296 (Row.v (sz := 1)) A2297 rw2299) (hc2302 : rw2299.length ≤ c2298)
    (hS : St w H [p2296] F) (hm : (slices_Concat___int_int_.m K slices2295).wp kr kp)
    (hret : ∀ (A2386 : Option Addr) (c2387 : Nat) (x2388 : (List Int)) (f2389 : Frag) (w : World), kr x2388 → (Vec 3 (ci .i64) 1 A2386 x2388 c2387 f2389) → St w H [p2296, f2389] F → R (.returned (.slice A2386 x2388.length c2387)) w)
    (hpan : ∀ v w, kp v → St w H [] F → R (.panicked [⟨v, false, false⟩]) w) :
    Calls Try.prog 42 ⟨[.slice A2297 rw2299.length c2298]⟩ w R := by
 refine enter Try.func42 rfl Try.ntmps42 rfl hS fun a w hS => ?_
 have hM := hm; clear hm
 rw [slices_Concat___int_int_.m] at hM
 have hs2303 : ∀ q ∈ p2296, q ∈ p2296 := fun _ h => h
 refine wp_seq <| wp_region_list <| st1 hS (asg rfl) rfl fun a w hS => ?_
 obtain ⟨f2304, hV2305, hS⟩ := hS.nilV 3 (ci .i64) 1
 refine wpList_nil <| then_n <| wp_seq <| wp_region_list <| st1 hS (asg rfl) rfl fun a w hS => wpList_nil <| then_n <| seq_joinJ (fun a w => ∃ (size2319 : Int), Ss 36 [] [(0, .slice A2297 rw2299.length c2298), (3, .int .i64 size2319)] H [p2296] F a w ∧ (slices_Concat___int_int_.j2 K slices2295 size2319).wp kr kp) (fun J2320 hJ2320 => ?_) ?_
 ·refine wp_seq ?_
  refine wp_region_list <| st1 hS (mv rfl) rfl fun a w hS => st1 hS (ovE (v' := .int .i64 (slices2295.length : Int)) (lenV rfl Try.runUnderlying86) (by rw [hr2300.len])) rfl fun a w hS => st1 hS (mv rfl) rfl fun a w hS => wpList_nil <| then_n <| wp_block <| s_loopJ (fun k2308 a w => ∃ (size2306 : Int) (v2307 : Int), Ss 36 [] [(0, .slice A2297 rw2299.length c2298), (3, .int .i64 size2306), (9, .slice A2297 rw2299.length c2298), (10, .int .i64 (slices2295.length : Int)), (11, .int .i64 v2307)] H [p2296] F a w ∧ (slices_Concat___int_int_.l1 K slices2295 k2308 size2306 v2307).wp kr kp) K ?_ ?_ ?_
  ·exact ⟨(0 : Int), (0 : Int), hS.to [1] (by kernel_rfl) ⟨rfl, rfl, rfl, rfl, rfl, trivial⟩, hM⟩
  ·intro a w hI; obtain ⟨_, _, _, hM⟩ := hI; exact wp_fail hM
  ·intro k2308 a w hI J2318 hJ2318
   obtain ⟨size2306, v2307, hS, hM⟩ := hI
   rw [slices_Concat___int_int_.l1] at hM
   refine wp_seq <| wp_region_list <| st1 hS (bin rfl rfl rfl) rfl fun a w hS => wpList_nil <| then_n <| wp_seq <| s_cond hS rfl hM (fun hb2309 hM => ?_) (fun hb2309 hM => ?_)
   ·refine wp_skip ?_
    refine then_n <| wp_seq <| wp_block <| wp_seq <| wp_region_list ?_
    obtain ⟨hk2310, hM⟩ := wp_chk hM
    refine st1 hS (ixV rfl rfl Try.runUnderlying86 Try.sizeOf22 (hp2301.rd (i := 0) rfl) Row.len rfl (hr2300.inb hk2310)) rfl fun a w hS => ?_
    obtain ⟨A2311, c2312, hw2315, hp2313, hc2314⟩ := hr2300.get hk2310
    refine st1 hS (ldV0 rfl (hp2301.rd (i := 0) rfl) Row.len (hr2300.inb hk2310) (by rw [show Row.v (rd rw2299 v2307) = _ from hw2315]; rfl) Try.isAgg22) rfl fun a w hS => st1 hS (asg rfl) rfl fun a w hS => wpList_nil <| then_n <| wp_seq <| wp_region_list <| st1 hS (mv rfl) rfl fun a w hS => st1 hS (mv rfl) rfl fun a w hS => st1 hS (lenV rfl Try.runUnderlying22) rfl fun a w hS => st1 hS (bin rfl rfl rfl) rfl fun a w hS => st1x (v := Value.int .i64) (x0 := (w64 (size2306 + ((rd slices2295 v2307).length : Int)))) hS (asg rfl) rfl fun size2316 a w hz hS => ?_
    have hM := lt_to hz hM; clear hz
    refine wpList_nil <| then_n <| wp_seq <| wp_region_list <| st1 hS (mv rfl) rfl fun a w hS => st1 hS (bin rfl rfl rfl) rfl fun a w hS => wpList_nil <| then_n <| s_cond hS rfl hM (fun hb2317 hM => ?_) (fun hb2317 hM => ?_)
    ·refine wp_region_list ?_
     refine st1 hS (mkI rfl Try.runUnderlying9 rfl) rfl fun a w hS => s_panic hS rfl <| blk_pan (then_pan (then_pan (blk_pan (then_pan ?_))))
     exact ⟨hS.ev.defs, hpan _ _ (wp_pan hM) hS.st.frame⟩
    ·refine wp_skip ?_
     refine blk_n (then_n ?_)
     refine wp_region_list <| st1 hS (bin rfl rfl rfl) rfl fun a w hS => st1 hS (mv rfl) rfl fun a w hS => wpList_nil <| then_n ?_
     exact hJ2318 _ _ ⟨size2316, (w64 (v2307 + (1 : Int))), hS.to [0] (by kernel_rfl) ⟨rfl, rfl, rfl, rfl, rfl, trivial⟩, hM⟩
   ·refine wp_exit ?_
    refine then_ex (then_ex (blk_same (then_n ?_)))
    exact hJ2320 _ _ ⟨size2306, hS.to [0] (by kernel_rfl) ⟨rfl, rfl, trivial⟩, hM⟩
 ·intro a w hI
  obtain ⟨size2319, hS, hM⟩ := hI
  rw [slices_Concat___int_int_.j2] at hM
  refine wp_seq <| wp_region_list <| st1 hS (mv rfl) rfl fun a w hS => s_call hS rfl Try.call46 (slices_Grow___int_int__f5f7_c hG K size2319 (hS.st.part 0 [0] (by kernel_rfl)) (wp_bind hM) (fun A2340 c2341 f2342 w hM h2343 hst => s_back hS.ev hst.appF rfl fun hS => ?_) (fun v w hk hst => s_pan (then_pan (⟨hS.ev.defs, hpan _ _ hk hst.appF.frame⟩))))
  replace hS : Ss _ _ _ H [f2342, p2296] F _ _ := hS
  refine st1 hS (asg rfl) rfl fun a w hS => wpList_nil <| then_n <| wp_seq <| wp_seq <| wp_region_list <| st1 hS (mv rfl) rfl fun a w hS => st1 hS (ovE (v' := .int .i64 (slices2295.length : Int)) (lenV rfl Try.runUnderlying86) (by rw [hr2300.len])) rfl fun a w hS => st1 hS (mv rfl) rfl fun a w hS => wpList_nil <| then_n <| wp_block <| s_loopJ (fun k2371 a w => ∃ (A2365 : Option Addr) (c2366 : Nat) (newslice2367 : (List Int)) (f2368 : Frag) (v2370 : Int), Ss 36 [] [(6, .slice A2365 newslice2367.length c2366), (25, .slice A2297 rw2299.length c2298), (26, .int .i64 (slices2295.length : Int)), (27, .int .i64 v2370)] H [p2296, f2368] F a w ∧ (Vec 3 (ci .i64) 1 A2365 newslice2367 c2366 f2368) ∧ (slices_Concat___int_int_.l3 K slices2295 k2371 newslice2367 v2370).wp kr kp) K ?_ ?_ ?_
  ·exact ⟨A2340, c2341, ([] : List Int), f2342, (0 : Int), hS.to [1, 0] (by kernel_rfl) ⟨rfl, rfl, rfl, rfl, trivial⟩, h2343, hM⟩
  ·intro a w hI; obtain ⟨_, _, _, _, _, _, _, hM⟩ := hI; exact wp_fail hM
  ·intro k2371 a w hI J2385 hJ2385
   obtain ⟨A2365, c2366, newslice2367, f2368, v2370, hS, hV2369, hM⟩ := hI
   rw [slices_Concat___int_int_.l3] at hM
   refine wp_seq <| wp_region_list <| st1 hS (bin rfl rfl rfl) rfl fun a w hS => wpList_nil <| then_n <| wp_seq <| s_cond hS rfl hM (fun hb2372 hM => ?_) (fun hb2372 hM => ?_)
   ·refine wp_skip ?_
    refine then_n <| wp_seq <| wp_block <| wp_seq <| wp_region_list ?_
    obtain ⟨hk2373, hM⟩ := wp_chk hM
    refine st1 hS (ixV rfl rfl Try.runUnderlying86 Try.sizeOf22 (hp2301.rd (i := 0) rfl) Row.len rfl (hr2300.inb hk2373)) rfl fun a w hS => ?_
    obtain ⟨A2374, c2375, hw2378, hp2376, hc2377⟩ := hr2300.get hk2373
    refine st1 hS (ldV0 rfl (hp2301.rd (i := 0) rfl) Row.len (hr2300.inb hk2373) (by rw [show Row.v (rd rw2299 v2370) = _ from hw2378]; rfl) Try.isAgg22) rfl fun a w hS => st1 hS (asg rfl) rfl fun a w hS => wpList_nil <| then_n <| wp_region_list <| st1 hS (mv rfl) rfl fun a w hS => st1 hS (mv rfl) rfl fun a w hS => ?_
    obtain ⟨hk2379, hM⟩ := wp_chk hM
    refine apV (ys := (rd slices2295 v2370)) 1 hS rfl rfl hV2369 rfl (hp2376.rd (i := 0) rfl) Try.runUnderlying22 Try.runUnderlying22 X.el3 (fun _ => rfl) rfl one_t3 hk2379 rfl fun zs2384 w A2380 c2381 f2382 hz hV2383 hS => ?_
    have hM := lt_to hz hM; clear hz
    refine st1 hS (asg rfl) rfl fun a w hS => wpList_nil <| blk_n (then_n ?_)
    refine wp_region_list <| st1 hS (bin rfl rfl rfl) rfl fun a w hS => st1 hS (mv rfl) rfl fun a w hS => wpList_nil <| then_n ?_
    exact hJ2385 _ _ ⟨A2380, c2381, zs2384, f2382, (w64 (v2370 + (1 : Int))), hS.to [0, 1] (by kernel_rfl) ⟨rfl, rfl, rfl, rfl, trivial⟩, hV2383, hM⟩
   ·refine wp_exit ?_
    refine then_ex (then_ex (blk_same (then_n ?_)))
    refine wp_seq <| wp_region_list <| st1 hS (mv rfl) rfl fun a w hS => st1 hS (asg rfl) rfl fun a w hS => wpList_nil <| then_n <| wp_ret ?_
    exact s_ret (rs := [2]) hS rfl rfl (hret A2365 c2366 newslice2367 f2368 w (wp_ok hM) hV2369 (hS.st.pick [0, 1] (by kernel_rfl)))
end Go.TryS
