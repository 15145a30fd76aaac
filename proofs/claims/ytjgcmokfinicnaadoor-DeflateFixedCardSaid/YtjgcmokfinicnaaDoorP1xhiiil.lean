/- Printed by a program of mine: each Go function answers what its model answers; conditions: what each theorem asks of memory. -/
import Derived.Test.YtjgcmokfinicnaaDoorMbmcgp
import Derived.Test.YtjgcmokfinicnaaDoorChecked
set_option linter.unusedVariables false
set_option linter.unusedSimpArgs false
set_option maxRecDepth 100000
namespace Go.TrydS
open Go Go.Sl Go.Mo Go.Proofs
attribute [local irreducible] Res.wp
theorem mixed : Tryd.prog.follows .mixedOrders = true := by kernel_rfl
def _root_.Go.Mo.T_api_Token.cells (x : T_api_Token) : List Value := [.int .u8 x.Lit_, .int .i64 x.Len_, .int .i64 x.Dist_]
def _root_.Go.Mo.T_bits_place.cells (x : T_bits_place) : List Value := [.int .i64 x.at_]
def _root_.Go.Mo.T_deflate_part.cells (x : T_deflate_part) : List Value := [.int .i64 x.symbol_, .int .i64 x.bits_, .int .u32 x.more_]
def _root_.Go.Mo.T_deflate_item.cells (x : T_deflate_item) : List Value := [.int .i64 x.symbol_, .int .i64 x.more_, .int .i64 x.bits_]
theorem X.el3 : El Tryd.prog 3 1 8 := ⟨_, _, Tryd.typeInfo3, rfl, rfl, rfl, rfl⟩
theorem X.el5 : El Tryd.prog 5 1 1 := ⟨_, _, Tryd.typeInfo5, rfl, rfl, rfl, rfl⟩
theorem X.el32 : El Tryd.prog 32 3 24 := ⟨_, _, Tryd.typeInfo32, rfl, rfl, rfl, rfl⟩
theorem X.el45 : El Tryd.prog 45 1 24 := ⟨_, _, Tryd.typeInfo45, rfl, rfl, rfl, rfl⟩
theorem X.el75 : El Tryd.prog 75 3 24 := ⟨_, _, Tryd.typeInfo75, rfl, rfl, rfl, rfl⟩
theorem X.el110 : El Tryd.prog 110 1 24 := ⟨_, _, Tryd.typeInfo110, rfl, rfl, rfl, rfl⟩
theorem X.el112 : El Tryd.prog 112 2 32 := ⟨_, _, Tryd.typeInfo112, rfl, rfl, rfl, rfl⟩
theorem one_t3 : ∀ x, ∀ u ∈ (ci .i64) x, u.oneCell' = true := fun x u hu => by cases hu with | head => rfl | tail _ h => cases h
theorem one_t5 : ∀ x, ∀ u ∈ (ci .u8) x, u.oneCell' = true := fun x u hu => by cases hu with | head => rfl | tail _ h => cases h
theorem one_t32 : ∀ x, ∀ u ∈ T_api_Token.cells x, u.oneCell' = true := by
  intro x u hu
  simp only [T_api_Token.cells, List.mem_cons, List.not_mem_nil, or_false] at hu
  rcases hu with rfl | rfl | rfl <;> rfl
theorem one_t75 : ∀ x, ∀ u ∈ T_deflate_item.cells x, u.oneCell' = true := by
  intro x u hu
  simp only [T_deflate_item.cells, List.mem_cons, List.not_mem_nil, or_false] at hu
  rcases hu with rfl | rfl | rfl <;> rfl
structure Gl (H : Imm) : Prop where
  g0 : ∃ T fr, H 0 = some (.cells ⟨tab_deflate_order.flatMap (ci .i64)⟩ T fr)

theorem match_fine_c {H : Imm} {F : List Frag} {w : World} {R : Ending → World → Prop} {kr : Bool → Prop} {kp : Value → Prop} (hG : Gl H) (K : Nat) (t36 : T_api_Token)
    (hS : St w H [] F) (hm : (match_fine.m K t36).wp kr kp)
    (hret : ∀ (x43 : Bool) (w : World), kr x43 → St w H [] F → R (.returned (.bool x43)) w) :
    Calls Tryd.prog 74 ⟨[.agg ⟨[.int .u8 t36.Lit_, .int .i64 t36.Len_, .int .i64 t36.Dist_]⟩]⟩ w R := by
 refine enter Tryd.func74 rfl Tryd.ntmps74 rfl hS fun a w hS => ?_
 have hM := hm; clear hm
 rw [match_fine.m] at hM
 refine wp_seq <| wp_region_list <| bx ([.int .u8 t36.Lit_, .int .i64 t36.Len_, .int .i64 t36.Dist_]) hS rfl rfl rfl fun w b37 f38 hB39 hS => st1 hS (asg rfl) rfl fun a w hS => wpList_nil <| then_n <| wp_seq <| wp_seq <| wp_region_list <| st1 hS (fad rfl Tryd.runUnderlying32 rfl Tryd.sizeOf3 rfl) rfl fun a w hS => st1 hS (ldb 0 rfl hB39 rfl rfl Tryd.isAgg3) rfl fun a w hS => st1 hS (bin rfl rfl rfl) rfl fun a w hS => wpList_nil <| then_n <| s_cond hS rfl hM (fun hb40 hM => ?_) (fun hb40 hM => ?_)
 ·refine wp_seq ?_
  refine wp_region_list <| st1 hS (fad rfl Tryd.runUnderlying32 rfl Tryd.sizeOf3 rfl) rfl fun a w hS => st1 hS (ldb 0 rfl hB39 rfl rfl Tryd.isAgg3) rfl fun a w hS => st1 hS (bin rfl rfl rfl) rfl fun a w hS => st1x (v := Value.bool) (x0 := (t36.Len_ == (0 : Int))) hS (asg rfl) rfl fun v41 a w hz hS => ?_
  have hM := lt_to hz hM; clear hz
  refine wpList_nil <| then_n <| wp_ret <| then_ret ?_
  exact s_ret (rs := [2]) hS rfl rfl (hret v41 w (wp_ok hM) (hS.st.pick [] (by kernel_rfl)))
 ·refine wp_skip ?_
  refine then_n <| wp_seq <| wp_region_list <| st1 hS (fad rfl Tryd.runUnderlying32 rfl Tryd.sizeOf3 rfl) rfl fun a w hS => st1 hS (ldb 0 rfl hB39 rfl rfl Tryd.isAgg3) rfl fun a w hS => st1 hS (bin rfl rfl rfl) rfl fun a w hS => st1 hS (mv rfl) rfl fun a w hS => g_op 3 true 12 (b := (decide (t36.Dist_ > (0 : Int)))) (r := (decide (t36.Dist_ ≤ (32768 : Int)))) hS rfl rfl rfl rfl rfl rfl rfl (fun hb a w hS K hK => ?_) rfl fun a w hS => ?_
  ·refine st1g hS rfl rfl rfl hb (fad rfl Tryd.runUnderlying32 rfl Tryd.sizeOf3 rfl) rfl fun a w hS => ?_
   refine st1g hS rfl rfl rfl hb (ldb 0 rfl hB39 rfl rfl Tryd.isAgg3) rfl fun a w hS => st1g hS rfl rfl rfl hb (bin rfl rfl rfl) rfl fun a w hS => ?_
   exact wpList_nil (hK _ _ (hS.up 3 rfl rfl))
  refine st1 hS (mv rfl) rfl fun a w hS => g_op 3 true 17 (b := ((decide (t36.Dist_ > (0 : Int))) && (decide (t36.Dist_ ≤ (32768 : Int))))) (r := (decide (t36.Len_ ≥ (3 : Int)))) hS rfl rfl rfl rfl rfl rfl rfl (fun hb a w hS K hK => ?_) rfl fun a w hS => ?_
  ·refine st1g hS rfl rfl rfl hb (fad rfl Tryd.runUnderlying32 rfl Tryd.sizeOf3 rfl) rfl fun a w hS => ?_
   refine st1g hS rfl rfl rfl hb (ldb 0 rfl hB39 rfl rfl Tryd.isAgg3) rfl fun a w hS => st1g hS rfl rfl rfl hb (bin rfl rfl rfl) rfl fun a w hS => ?_
   exact wpList_nil (hK _ _ (hS.up 3 rfl rfl))
  refine st1 hS (mv rfl) rfl fun a w hS => g_op 3 true 22 (b := (((decide (t36.Dist_ > (0 : Int))) && (decide (t36.Dist_ ≤ (32768 : Int)))) && (decide (t36.Len_ ≥ (3 : Int))))) (r := (decide (t36.Len_ ≤ (258 : Int)))) hS rfl rfl rfl rfl rfl rfl rfl (fun hb a w hS K hK => ?_) rfl fun a w hS => ?_
  ·refine st1g hS rfl rfl rfl hb (fad rfl Tryd.runUnderlying32 rfl Tryd.sizeOf3 rfl) rfl fun a w hS => ?_
   refine st1g hS rfl rfl rfl hb (ldb 0 rfl hB39 rfl rfl Tryd.isAgg3) rfl fun a w hS => st1g hS rfl rfl rfl hb (bin rfl rfl rfl) rfl fun a w hS => ?_
   exact wpList_nil (hK _ _ (hS.up 3 rfl rfl))
  refine st1 hS (mv rfl) rfl fun a w hS => g_op 3 true 27 (b := ((((decide (t36.Dist_ > (0 : Int))) && (decide (t36.Dist_ ≤ (32768 : Int)))) && (decide (t36.Len_ ≥ (3 : Int)))) && (decide (t36.Len_ ≤ (258 : Int))))) (r := (t36.Lit_ == (0 : Int))) hS rfl rfl rfl rfl rfl rfl rfl (fun hb a w hS K hK => ?_) rfl fun a w hS => ?_
  ·refine st1g hS rfl rfl rfl hb (fad rfl Tryd.runUnderlying32 rfl Tryd.sizeOf5 rfl) rfl fun a w hS => ?_
   refine st1g hS rfl rfl rfl hb (ldb 0 rfl hB39 rfl rfl Tryd.isAgg5) rfl fun a w hS => st1g hS rfl rfl rfl hb (bin rfl rfl rfl) rfl fun a w hS => ?_
   exact wpList_nil (hK _ _ (hS.up 3 rfl rfl))
  refine st1x (v := Value.bool) (x0 := (((((decide (t36.Dist_ > (0 : Int))) && (decide (t36.Dist_ ≤ (32768 : Int)))) && (decide (t36.Len_ ≥ (3 : Int)))) && (decide (t36.Len_ ≤ (258 : Int)))) && (t36.Lit_ == (0 : Int)))) hS (asg rfl) rfl fun v42 a w hz hS => ?_
  have hM := lt_to hz hM; clear hz
  refine wpList_nil <| then_n <| wp_ret ?_
  exact s_ret (rs := [2]) hS rfl rfl (hret v42 w (wp_ok hM) (hS.st.pick [] (by kernel_rfl)))

theorem match_more_c {H : Imm} {F : List Frag} {w : World} {R : Ending → World → Prop} {kr : Int → Prop} {kp : Value → Prop} (hG : Gl H) (K : Nat) (n_58 : Int) (told59 : Int)
    (hS : St w H [] F) (hm : (match_more.m K n_58 told59).wp kr kp)
    (hret : ∀ (x68 : Int) (w : World), kr x68 → St w H [] F → R (.returned (.int .i64 x68)) w) :
    Calls Tryd.prog 76 ⟨[.int .i64 n_58, .int .i64 told59]⟩ w R := by
 refine enter Tryd.func76 rfl Tryd.ntmps76 rfl hS fun a w hS => ?_
 have hM := hm; clear hm
 rw [match_more.m] at hM
 refine wp_seq <| wp_region_list <| st1 hS (asg rfl) rfl fun a w hS => wpList_nil <| then_n <| wp_seq <| wp_region_list <| st1 hS (asg rfl) rfl fun a w hS => wpList_nil <| then_n <| wp_seq <| wp_block <| s_loopJ (fun k62 a w => ∃ (n_60 : Int) (k_61 : Int), Ss 15 [] [(0, .int .i64 n_60), (1, .int .i64 told59), (5, .int .i64 k_61)] H [] F a w ∧ (match_more.l1 K told59 k62 n_60 k_61).wp kr kp) K ?_ ?_ ?_
 ·exact ⟨n_58, (0 : Int), hS.to [] (by kernel_rfl) ⟨rfl, rfl, rfl, trivial⟩, hM⟩
 ·intro a w hI; obtain ⟨_, _, _, hM⟩ := hI; exact wp_fail hM
 ·intro k62 a w hI J67 hJ67
  obtain ⟨n_60, k_61, hS, hM⟩ := hI
  rw [match_more.l1] at hM
  refine wp_seq <| wp_seq <| wp_region_list <| st1 hS (mv rfl) rfl fun a w hS => st1 hS (mv rfl) rfl fun a w hS => ?_
  obtain ⟨hk63, hM⟩ := wp_chk hM
  refine st1 hS (shl rfl rfl hk63) rfl fun a w hS => st1 hS (bin rfl rfl rfl) rfl fun a w hS => wpList_nil <| then_n <| s_cond hS rfl hM (fun hb64 hM => ?_) (fun hb64 hM => ?_)
  ·refine wp_skip ?_
   refine then_n <| wp_block <| wp_seq <| wp_region_list <| st1 hS (mv rfl) rfl fun a w hS => st1 hS (shr rfl rfl rfl) rfl fun a w hS => st1x (v := Value.int .i64) (x0 := (ishr .i64 n_60 (1 : Int))) hS (asg rfl) rfl fun n_65 a w hz hS => ?_
   have hM := lt_to hz hM; clear hz
   refine wpList_nil <| then_n <| wp_region_list <| st1 hS (mv rfl) rfl fun a w hS => st1 hS (bin rfl rfl rfl) rfl fun a w hS => st1x (v := Value.int .i64) (x0 := (w64 (k_61 + (1 : Int)))) hS (asg rfl) rfl fun k_66 a w hz hS => ?_
   have hM := lt_to hz hM; clear hz
   refine wpList_nil <| blk_n (then_n ?_)
   exact hJ67 _ _ ⟨n_65, k_66, hS.to [] (by kernel_rfl) ⟨rfl, rfl, rfl, trivial⟩, hM⟩
  ·refine wp_exit ?_
   refine then_ex (then_ex (blk_same (then_n ?_)))
   refine wp_seq <| wp_region_list <| st1 hS (mv rfl) rfl fun a w hS => st1 hS (asg rfl) rfl fun a w hS => wpList_nil <| then_n <| wp_ret ?_
   exact s_ret (rs := [4]) hS rfl rfl (hret k_61 w (wp_ok hM) (hS.st.pick [] (by kernel_rfl)))

theorem match_lengthBits_c {H : Imm} {F : List Frag} {w : World} {R : Ending → World → Prop} {kr : Int → Prop} {kp : Value → Prop} (hG : Gl H) (K : Nat) (n_53 : Int)
    (hS : St w H [] F) (hm : (match_lengthBits.m K n_53).wp kr kp)
    (hret : ∀ (x73 : Int) (w : World), kr x73 → St w H [] F → R (.returned (.int .i64 x73)) w) :
    Calls Tryd.prog 75 ⟨[.int .i64 n_53]⟩ w R := by
 refine enter Tryd.func75 rfl Tryd.ntmps75 rfl hS fun a w hS => ?_
 have hM := hm; clear hm
 rw [match_lengthBits.m] at hM
 refine wp_seq <| wp_region_list <| st1 hS (asg rfl) rfl fun a w hS => wpList_nil <| then_n <| wp_seq <| wp_block <| wp_seq <| wp_region_list <| st1 hS (mv rfl) rfl fun a w hS => st1 hS (bin rfl rfl rfl) rfl fun a w hS => st1x (v := Value.bool) (x0 := (n_53 == (258 : Int))) hS (asg rfl) rfl fun v54 a w hz hS => ?_
 have hM := lt_to hz hM; clear hz
 refine wpList_nil <| then_n <| s_cond hS rfl hM (fun hb55 hM => ?_) (fun hb55 hM => ?_)
 ·refine wp_seq ?_
  refine wp_region_list <| st1 hS (asg rfl) rfl fun a w hS => wpList_nil <| then_n <| wp_ret <| blk_ret (then_ret ?_)
  exact s_ret (rs := [2]) hS rfl rfl (hret (8 : Int) w (wp_ok hM) (hS.st.pick [] (by kernel_rfl)))
 ·refine wp_seq ?_
  refine wp_region_list <| st1 hS (mv rfl) rfl fun a w hS => st1 hS (bin rfl rfl rfl) rfl fun a w hS => st1x (v := Value.bool) (x0 := (decide (n_53 ≥ (115 : Int)))) hS (asg rfl) rfl fun v56 a w hz hS => ?_
  have hM := lt_to hz hM; clear hz
  refine wpList_nil <| then_n <| s_cond hS rfl hM (fun hb57 hM => ?_) (fun hb57 hM => ?_)
  ·refine wp_seq ?_
   refine wp_region_list <| st1 hS (mv rfl) rfl fun a w hS => st1 hS (bin rfl rfl rfl) rfl fun a w hS => s_call hS rfl Tryd.call76 (match_more_c hG K (w64 (n_53 - (3 : Int))) (2 : Int) (hS.st.part 0 [] (by kernel_rfl)) (wp_bind hM) (fun x69 w hM  hst => s_back hS.ev hst.appF rfl fun hS => ?_))
   replace hS : Ss _ _ _ H [] F _ _ := hS
   refine st1 hS (bin rfl rfl rfl) rfl fun a w hS => st1x (v := Value.int .i64) (x0 := (w64 ((8 : Int) + x69))) hS (asg rfl) rfl fun v70 a w hz hS => ?_
   have hM := lt_to hz hM; clear hz
   refine wpList_nil <| then_n <| wp_ret <| blk_ret (then_ret ?_)
   exact s_ret (rs := [2]) hS rfl rfl (hret v70 w (wp_ok hM) (hS.st.pick [] (by kernel_rfl)))
  ·refine wp_skip ?_
   refine blk_n (then_n ?_)
   refine wp_seq <| wp_region_list <| st1 hS (mv rfl) rfl fun a w hS => st1 hS (bin rfl rfl rfl) rfl fun a w hS => s_call hS rfl Tryd.call76 (match_more_c hG K (w64 (n_53 - (3 : Int))) (2 : Int) (hS.st.part 0 [] (by kernel_rfl)) (wp_bind hM) (fun x71 w hM  hst => s_back hS.ev hst.appF rfl fun hS => ?_))
   replace hS : Ss _ _ _ H [] F _ _ := hS
   refine st1 hS (bin rfl rfl rfl) rfl fun a w hS => st1x (v := Value.int .i64) (x0 := (w64 ((7 : Int) + x71))) hS (asg rfl) rfl fun v72 a w hz hS => ?_
   have hM := lt_to hz hM; clear hz
   refine wpList_nil <| then_n <| wp_ret ?_
   exact s_ret (rs := [2]) hS rfl rfl (hret v72 w (wp_ok hM) (hS.st.pick [] (by kernel_rfl)))

theorem match_Cost_c {H : Imm} {F : List Frag} {w : World} {R : Ending → World → Prop} {kr : (Int × Int) → Prop} {kp : Value → Prop} (hG : Gl H) (K : Nat) (l_21 : List T_api_Token) (A22 : Option Addr) (c23 : Nat) (hr24 : Rdl H [] F T_api_Token.cells A22 l_21) (hc25 : l_21.length ≤ c23)
    (hS : St w H [] F) (hm : (match_Cost.m K l_21).wp kr kp)
    (hret : ∀ (x79 : Int) (x80 : Int) (w : World), kr (x79, x80) → St w H [] F → R (.returned (.tuple ⟨[.int .i64 x79, .int .i64 x80]⟩)) w) :
    Calls Tryd.prog 49 ⟨[.slice A22 l_21.length c23]⟩ w R := by
 refine enter Tryd.func49 rfl Tryd.ntmps49 rfl hS fun a w hS => ?_
 have hM := hm; clear hm
 rw [match_Cost.m] at hM
 refine wp_seq <| wp_region_list <| st1 hS (asg rfl) rfl fun a w hS => st1 hS (asg rfl) rfl fun a w hS => wpList_nil <| then_n <| wp_seq <| wp_region_list <| st1 hS (asg rfl) rfl fun a w hS => wpList_nil <| then_n <| wp_seq <| wp_seq <| wp_region_list <| st1 hS (mv rfl) rfl fun a w hS => st1 hS (lenV rfl Tryd.runUnderlying25) rfl fun a w hS => st1 hS (mv rfl) rfl fun a w hS => wpList_nil <| then_n <| wp_block <| s_loopJ (fun k28 a w => ∃ (n_26 : Int) (v27 : Int), Ss 47 [] [(4, .int .i64 n_26), (7, .slice A22 l_21.length c23), (8, .int .i64 (l_21.length : Int)), (9, .int .i64 v27)] H [] F a w ∧ (match_Cost.l1 K l_21 k28 n_26 v27).wp kr kp) K ?_ ?_ ?_
 ·exact ⟨(7 : Int), (0 : Int), hS.to [] (by kernel_rfl) ⟨rfl, rfl, rfl, rfl, trivial⟩, hM⟩
 ·intro a w hI; obtain ⟨_, _, _, hM⟩ := hI; exact wp_fail hM
 ·intro k28 a w hI J78 hJ78
  obtain ⟨n_26, v27, hS, hM⟩ := hI
  rw [match_Cost.l1] at hM
  refine wp_seq <| wp_region_list <| st1 hS (bin rfl rfl rfl) rfl fun a w hS => wpList_nil <| then_n <| wp_seq <| s_cond hS rfl hM (fun hb29 hM => ?_) (fun hb29 hM => ?_)
  ·refine wp_skip ?_
   refine then_n <| wp_seq <| wp_block <| wp_seq <| wp_region_list ?_
   obtain ⟨hk30, hM⟩ := wp_chk hM
   refine st1 hS (ixV rfl rfl Tryd.runUnderlying25 Tryd.sizeOf32 hr24.wk (fun _ => rfl) rfl hk30) rfl fun a w hS => st1 hS (ldVA rfl hr24.wk (fun _ => rfl) hk30 Tryd.isAgg32 Tryd.sizeOf32 rfl) rfl fun a w hS => alc ([.int .u8 (0 : Int), .int .i64 (0 : Int), .int .i64 (0 : Int)]) hS Tryd.zeroValue32 rfl rfl fun w b31 f32 hB33 hS => stB 0 ([.int .u8 ((rd l_21 v27).Lit_), .int .i64 ((rd l_21 v27).Len_), .int .i64 ((rd l_21 v27).Dist_)]) ([.int .u8 ((rd l_21 v27).Lit_), .int .i64 ((rd l_21 v27).Len_), .int .i64 ((rd l_21 v27).Dist_)]) hS rfl rfl hB33 rfl rfl Tryd.sizeOf32 (by simp [Value.oneCell']) (Nat.le_of_ble_eq_true rfl) rfl fun w f34 hB35 hS => wpList_nil <| then_n <| wp_block <| wp_seq <| wp_region_list <| st1 hS (ldbA 0 rfl hB35 rfl ([.int .u8 ((rd l_21 v27).Lit_), .int .i64 ((rd l_21 v27).Len_), .int .i64 ((rd l_21 v27).Dist_)]) rfl rfl Tryd.isAgg32 Tryd.sizeOf32) rfl fun a w hS => s_call hS rfl Tryd.call74 (match_fine_c hG K (T_api_Token.mk ((rd l_21 v27).Lit_) ((rd l_21 v27).Len_) ((rd l_21 v27).Dist_)) (hS.st.part 0 [0] (by kernel_rfl)) (wp_bind hM) (fun x44 w hM  hst => s_back hS.ev hst.appF rfl fun hS => ?_))
   replace hS : Ss _ _ _ H [f34] F _ _ := hS
   refine st1 hS (un rfl rfl) rfl fun a w hS => st1x (v := Value.bool) (x0 := (!x44)) hS (asg rfl) rfl fun v45 a w hz hS => ?_
   have hM := lt_to hz hM; clear hz
   refine wpList_nil <| then_n <| s_cond hS rfl hM (fun hb46 hM => ?_) (fun hb46 hM => ?_)
   ·refine wp_seq ?_
    refine wp_region_list <| st1 hS (asg rfl) rfl fun a w hS => st1 hS (asg rfl) rfl fun a w hS => wpList_nil <| then_n <| wp_ret <| blk_ret (blk_ret (then_ret (then_ret (blk_ret (then_ret ?_)))))
    exact s_ret (rs := [2, 3]) hS rfl rfl (hret (0 : Int) (1 : Int) w (wp_ok hM) (hS.st.pick [] (by kernel_rfl)))
   ·refine wp_seq ?_
    refine wp_region_list <| st1 hS (fad rfl Tryd.runUnderlying32 rfl Tryd.sizeOf3 rfl) rfl fun a w hS => st1 hS (ldb 0 rfl hB35 rfl rfl Tryd.isAgg3) rfl fun a w hS => st1 hS (bin rfl rfl rfl) rfl fun a w hS => st1 hS (mv rfl) rfl fun a w hS => g_op 3 true 32 (b := ((rd l_21 v27).Dist_ == (0 : Int))) (r := (decide ((rd l_21 v27).Lit_ < (144 : Int)))) hS rfl rfl rfl rfl rfl rfl rfl (fun hb a w hS K hK => ?_) rfl fun a w hS => ?_
    ·refine st1g hS rfl rfl rfl hb (fad rfl Tryd.runUnderlying32 rfl Tryd.sizeOf5 rfl) rfl fun a w hS => ?_
     refine st1g hS rfl rfl rfl hb (ldb 0 rfl hB35 rfl rfl Tryd.isAgg5) rfl fun a w hS => st1g hS rfl rfl rfl hb (bin rfl rfl rfl) rfl fun a w hS => ?_
     exact wpList_nil (hK _ _ (hS.up 3 rfl rfl))
    refine st1x (v := Value.bool) (x0 := (((rd l_21 v27).Dist_ == (0 : Int)) && (decide ((rd l_21 v27).Lit_ < (144 : Int))))) hS (asg rfl) rfl fun v47 a w hz hS => ?_
    have hM := lt_to hz hM; clear hz
    refine wpList_nil <| then_n <| s_cond hS rfl hM (fun hb48 hM => ?_) (fun hb48 hM => ?_)
    ·refine wp_region_list ?_
     refine st1 hS (mv rfl) rfl fun a w hS => st1 hS (bin rfl rfl rfl) rfl fun a w hS => st1x (v := Value.int .i64) (x0 := (w64 (n_26 + (8 : Int)))) hS (asg rfl) rfl fun n_49 a w hz hS => ?_
     have hM := lt_to hz hM; clear hz
     refine wpList_nil <| blk_n (blk_n (then_n ?_))
     refine wp_region_list <| st1 hS (bin rfl rfl rfl) rfl fun a w hS => st1 hS (mv rfl) rfl fun a w hS => wpList_nil <| then_n ?_
     exact hJ78 _ _ ⟨n_49, (w64 (v27 + (1 : Int))), hS.to [] (by kernel_rfl) ⟨rfl, rfl, rfl, rfl, trivial⟩, hM⟩
    ·refine wp_seq ?_
     refine wp_region_list <| st1 hS (fad rfl Tryd.runUnderlying32 rfl Tryd.sizeOf3 rfl) rfl fun a w hS => st1 hS (ldb 0 rfl hB35 rfl rfl Tryd.isAgg3) rfl fun a w hS => st1 hS (bin rfl rfl rfl) rfl fun a w hS => st1x (v := Value.bool) (x0 := ((rd l_21 v27).Dist_ == (0 : Int))) hS (asg rfl) rfl fun v50 a w hz hS => ?_
     have hM := lt_to hz hM; clear hz
     refine wpList_nil <| then_n <| s_cond hS rfl hM (fun hb51 hM => ?_) (fun hb51 hM => ?_)
     ·refine wp_region_list ?_
      refine st1 hS (mv rfl) rfl fun a w hS => st1 hS (bin rfl rfl rfl) rfl fun a w hS => st1x (v := Value.int .i64) (x0 := (w64 (n_26 + (9 : Int)))) hS (asg rfl) rfl fun n_52 a w hz hS => ?_
      have hM := lt_to hz hM; clear hz
      refine wpList_nil <| blk_n (blk_n (then_n ?_))
      refine wp_region_list <| st1 hS (bin rfl rfl rfl) rfl fun a w hS => st1 hS (mv rfl) rfl fun a w hS => wpList_nil <| then_n ?_
      exact hJ78 _ _ ⟨n_52, (w64 (v27 + (1 : Int))), hS.to [] (by kernel_rfl) ⟨rfl, rfl, rfl, rfl, trivial⟩, hM⟩
     ·refine draw_begin (vals := [some (.int .i64 n_26), some (ptr b31 1), some (.int .i64 ((rd l_21 v27).Len_)), none, none, some (ptr b31 2), some (.int .i64 ((rd l_21 v27).Dist_)), some (.int .i64 (w64 ((rd l_21 v27).Dist_ - (1 : Int)))), none, none, none, none]) hS mixed rfl ?_
      intro l w ho hcl hA hst
      refine phq hA hst ho hcl navail nmust 3 [0, 1, 2, 5, 6, 7] rfl rfl rfl rfl rfl (by exact ⟨nR rfl rfl rfl rfl rfl (by exact ovE (mv rfl) rfl), nR rfl rfl rfl rfl rfl (by exact ovE (fad rfl Tryd.runUnderlying32 rfl Tryd.sizeOf3 rfl) rfl), nR rfl rfl rfl rfl rfl (by exact ovE (ldb 0 rfl hB35 rfl rfl Tryd.isAgg3) rfl), nR rfl rfl rfl rfl rfl (by exact ovE (fad rfl Tryd.runUnderlying32 rfl Tryd.sizeOf3 rfl) rfl), nR rfl rfl rfl rfl rfl (by exact ovE (ldb 0 rfl hB35 rfl rfl Tryd.isAgg3) rfl), nR rfl rfl rfl rfl rfl (by exact ovE (bin rfl rfl rfl) rfl), trivial⟩) fun D l a w ho hcl hav hpre hm hE hk hA hst => ?_
      have hS := (Ss.mk hE hst).env2 (e' := [(15, .int .i64 ((rd l_21 v27).Len_))]) ⟨rfl, trivial⟩
      refine op_of_nth rfl <| s_call hS rfl Tryd.call75 (match_lengthBits_c hG K ((rd l_21 v27).Len_) (hS.st.part 0 [0] (by kernel_rfl)) (wp_bind hM) (fun x74 w hM  hst => s_back hS.ev hst.appF rfl fun hS => ?_))
      replace hS : Ss _ _ _ H [f34] F _ _ := hS
      refine wpList_nil (then_n ?_)
      replace hst := hS.st
      obtain ⟨hcl, hmust, hav2, hA⟩ := dn (vals' := [some (.int .i64 n_26), some (ptr b31 1), some (.int .i64 ((rd l_21 v27).Len_)), some (.int .i64 x74), some (.int .i64 (w64 (x74 + (5 : Int)))), some (ptr b31 2), some (.int .i64 ((rd l_21 v27).Dist_)), some (.int .i64 (w64 ((rd l_21 v27).Dist_ - (1 : Int)))), none, none, none, none]) 3 [(2, 3), (1, 2)] hA hcl hav hm hpre hk rfl rfl rfl rfl rfl rfl rfl
      clear hm hav
      refine phq hA hst ho hcl hav2 hmust 8 [0, 4, 5, 6, 7] rfl rfl rfl rfl rfl (by exact ⟨nR rfl rfl rfl rfl rfl (by exact ovE (mv rfl) rfl), nR rfl rfl rfl rfl rfl (by exact ovE (bin rfl rfl rfl) rfl), nR rfl rfl rfl rfl rfl (by exact ovE (fad rfl Tryd.runUnderlying32 rfl Tryd.sizeOf3 rfl) rfl), nR rfl rfl rfl rfl rfl (by exact ovE (ldb 0 rfl hB35 rfl rfl Tryd.isAgg3) rfl), nR rfl rfl rfl rfl rfl (by exact ovE (bin rfl rfl rfl) rfl), trivial⟩) fun D l a w ho hcl hav hpre hm hE hk hA hst => ?_
      have hS := (Ss.mk hE hst).env2 (e' := [(20, .int .i64 (w64 ((rd l_21 v27).Dist_ - (1 : Int))))]) ⟨rfl, trivial⟩
      refine op_of_nth rfl <| s_call hS rfl Tryd.call76 (match_more_c hG K (w64 ((rd l_21 v27).Dist_ - (1 : Int))) (1 : Int) (hS.st.part 0 [0] (by kernel_rfl)) (wp_bind hM) (fun x75 w hM  hst => s_back hS.ev hst.appF rfl fun hS => ?_))
      replace hS : Ss _ _ _ H [f34] F _ _ := hS
      refine wpList_nil (then_n ?_)
      replace hst := hS.st
      obtain ⟨n_76, hz77⟩ : ∃ x, x = (w64 (n_26 + (w64 ((w64 (x74 + (5 : Int))) + x75)))) := ⟨_, rfl⟩
      replace hM := lt_to hz77 hM
      obtain ⟨hcl, hmust, hav2, hA⟩ := dn (vals' := [some (.int .i64 n_26), some (ptr b31 1), some (.int .i64 ((rd l_21 v27).Len_)), some (.int .i64 x74), some (.int .i64 (w64 (x74 + (5 : Int)))), some (ptr b31 2), some (.int .i64 ((rd l_21 v27).Dist_)), some (.int .i64 (w64 ((rd l_21 v27).Dist_ - (1 : Int)))), some (.int .i64 x75), some (.int .i64 (w64 ((w64 (x74 + (5 : Int))) + x75))), some (.int .i64 (w64 (n_26 + (w64 ((w64 (x74 + (5 : Int))) + x75))))), some (.int .i64 n_76)]) 8 [(3, 8), (7, 8), (2, 3), (6, 7), (1, 2), (5, 6)] hA hcl hav hm hpre hk rfl rfl rfl rfl rfl rfl rfl
      clear hm hav
      refine phqE hA hst ho hcl hmust [0, 4, 9, 10, 11] rfl rfl rfl (by exact ⟨nR rfl rfl rfl rfl rfl (by exact ovE (mv rfl) rfl), nR rfl rfl rfl rfl rfl (by exact ovE (bin rfl rfl rfl) rfl), nR rfl rfl rfl rfl rfl (by exact ovE (bin rfl rfl rfl) rfl), nR rfl rfl rfl rfl rfl (by exact ovE (bin rfl rfl rfl) rfl), nR rfl rfl rfl rfl rfl (by exact ovE (asg rfl) (congrArg (Value.int .i64) hz77.symm)), trivial⟩) fun a w hS => ?_
      replace hS := hS.env2 (e' := [(4, .int .i64 n_76), (7, .slice A22 l_21.length c23), (8, .int .i64 (l_21.length : Int)), (9, .int .i64 v27)]) ⟨rfl, rfl, rfl, rfl, trivial⟩
      refine blk_n (blk_n (then_n ?_))
      refine wp_region_list <| st1 hS (bin rfl rfl rfl) rfl fun a w hS => st1 hS (mv rfl) rfl fun a w hS => wpList_nil <| then_n ?_
      exact hJ78 _ _ ⟨n_76, (w64 (v27 + (1 : Int))), hS.to [] (by kernel_rfl) ⟨rfl, rfl, rfl, rfl, trivial⟩, hM⟩
  ·refine wp_exit ?_
   refine then_ex (then_ex (blk_same (then_n ?_)))
   refine wp_seq <| wp_region_list <| st1 hS (mv rfl) rfl fun a w hS => st1 hS (asg rfl) rfl fun a w hS => st1 hS (asg rfl) rfl fun a w hS => wpList_nil <| then_n <| wp_ret ?_
   exact s_ret (rs := [2, 3]) hS rfl rfl (hret n_26 (0 : Int) w (wp_ok hM) (hS.st.pick [] (by kernel_rfl)))

theorem deflate_fine_c {H : Imm} {F : List Frag} {w : World} {R : Ending → World → Prop} {kr : Bool → Prop} {kp : Value → Prop} (hG : Gl H) (K : Nat) (l_16 : List T_api_Token) (A17 : Option Addr) (c18 : Nat) (hr19 : Rdl H [] F T_api_Token.cells A17 l_16) (hc20 : l_16.length ≤ c18)
    (hS : St w H [] F) (hm : (deflate_fine.m K l_16).wp kr kp)
    (hret : ∀ (x84 : Bool) (w : World), kr x84 → St w H [] F → R (.returned (.bool x84)) w) :
    Calls Tryd.prog 21 ⟨[.slice A17 l_16.length c18]⟩ w R := by
 refine enter Tryd.func21 rfl Tryd.ntmps21 rfl hS fun a w hS => ?_
 have hM := hm; clear hm
 rw [deflate_fine.m] at hM
 refine wp_seq <| wp_region_list <| st1 hS (asg rfl) rfl fun a w hS => wpList_nil <| then_n <| wp_seq <| wp_region_list <| st1 hS (mv rfl) rfl fun a w hS => s_call hS rfl Tryd.call49 (match_Cost_c hG K l_16 A17 c18 (hr19.app _) hc20 (hS.st.part 0 [] (by kernel_rfl)) (wp_bind hM) (fun x81 x82 w hM  hst => s_back hS.ev hst.appF rfl fun hS => ?_))
 replace hS : Ss _ _ _ H [] F _ _ := hS
 refine st1 hS (mv rfl) rfl fun a w hS => st1 hS (ex rfl rfl) rfl fun a w hS => st1 hS (ex rfl rfl) rfl fun a w hS => st1 hS (asg rfl) rfl fun a w hS => st1 hS (asg rfl) rfl fun a w hS => wpList_nil <| then_n <| wp_seq <| wp_region_list <| st1 hS (mv rfl) rfl fun a w hS => st1 hS (bin rfl rfl rfl) rfl fun a w hS => st1x (v := Value.bool) (x0 := (x82 == (0 : Int))) hS (asg rfl) rfl fun v83 a w hz hS => ?_
 have hM := lt_to hz hM; clear hz
 refine wpList_nil <| then_n <| wp_ret ?_
 exact s_ret (rs := [2]) hS rfl rfl (hret v83 w (wp_ok hM) (hS.st.pick [] (by kernel_rfl)))

theorem huff_count_c {H : Imm} {F : List Frag} {w : World} {R : Ending → World → Prop} {kr : ((List Int) × Bool) → Prop} {kp : Value → Prop} (hG : Gl H) (K : Nat) (lengths234 : List Int) (A235 : Option Addr) (c236 : Nat) (hr237 : Rdl H [] F (ci .i64) A235 lengths234) (hc238 : lengths234.length ≤ c236)
    (hS : St w H [] F) (hm : (huff_count.m K lengths234).wp kr kp)
    (hret : ∀ (x292 : (List Int)) (x294 : Bool) (w : World), kr (x292, x294) → (x292.length = 16) → St w H [] F → R (.returned (.tuple ⟨[.agg ⟨x292.flatMap (ci .i64)⟩, .bool x294]⟩)) w) :
    Calls Tryd.prog 78 ⟨[.slice A235 lengths234.length c236]⟩ w R := by
 refine enter Tryd.func78 rfl Tryd.ntmps78 rfl hS fun a w hS => ?_
 have hM := hm; clear hm
 rw [huff_count.m] at hM
 refine wp_seq <| wp_region_list <| alc ((List.replicate 16 (0 : Int)).flatMap (ci .i64)) hS Tryd.zeroValue136 rfl rfl fun w b239 f240 hB241 hS => st1 hS (asg rfl) rfl fun a w hS => wpList_nil <| then_n <| wp_seq <| wp_seq <| wp_region_list <| st1 hS (mv rfl) rfl fun a w hS => st1 hS (lenV rfl Tryd.runUnderlying45) rfl fun a w hS => st1 hS (bin rfl rfl rfl) rfl fun a w hS => wpList_nil <| then_n <| s_cond hS rfl hM (fun hb242 hM => ?_) (fun hb242 hM => ?_)
 ·refine wp_seq ?_
  refine wp_region_list <| st1 hS (ldAr (xs := (List.replicate 16 (0 : Int))) (g := (ci .i64)) (pre := []) (post := []) 0 rfl hB241 rfl (by simp) rfl (flat_ln (g := (ci .i64)) (sz := 1) (fun _ => rfl) (List.length_replicate ..)) Tryd.isAgg136 Tryd.sizeOf136) rfl fun a w hS => stAr (xs := (List.replicate 16 (0 : Int))) (ys := (List.replicate 16 (0 : Int))) (g := (ci .i64)) (pre := []) (post := []) 0 hS rfl rfl hB241 rfl (by simp) rfl (flat_ln (g := (ci .i64)) (sz := 1) (fun _ => rfl) (List.length_replicate ..)) (flat_ln (g := (ci .i64)) (sz := 1) (fun _ => rfl) (List.length_replicate ..)) (one_t3) Tryd.sizeOf136 fun w f243 hB244 hS => ?_
  replace hB244 : Blk f243 b239 ((List.replicate 16 (0 : Int)).flatMap (ci .i64)) 136 := by simpa using hB244
  refine st1 hS (asg rfl) rfl fun a w hS => wpList_nil <| then_n <| wp_ret <| then_ret ?_
  exact s_retC (vs := [.agg ⟨(List.replicate 16 (0 : Int)).flatMap (ci .i64)⟩, .bool false]) hS rfl (by exact ⟨rvR 0 rfl hB244 rfl (flat_ln (g := (ci .i64)) (sz := 1) (fun _ => rfl) (List.length_replicate ..)) Tryd.isAgg136 Tryd.sizeOf136, rvT rfl, trivial⟩) (hret (List.replicate 16 (0 : Int)) false w (wp_ok hM) (List.length_replicate ..) (hS.st.pick [] (by kernel_rfl)))
 ·refine wp_skip ?_
  refine then_n <| seq_joinJ (fun a w => ∃ (c_281 : (List Int)) (f283 : Frag), Ss 31 [] [(2, ptr b239 0)] H [f283] F a w ∧ (c_281.length = 16) ∧ (Blk f283 b239 (c_281.flatMap (ci .i64)) 136) ∧ (huff_count.j2 K c_281).wp kr kp) (fun J285 hJ285 => ?_) ?_
  ·refine wp_seq ?_
   refine wp_region_list <| st1 hS (mv rfl) rfl fun a w hS => st1 hS (lenV rfl Tryd.runUnderlying45) rfl fun a w hS => st1 hS (mv rfl) rfl fun a w hS => wpList_nil <| then_n <| wp_block <| s_loopJ (fun k268 a w => ∃ (c_263 : (List Int)) (f265 : Frag) (v267 : Int), Ss 31 [] [(2, ptr b239 0), (10, .slice A235 lengths234.length c236), (11, .int .i64 (lengths234.length : Int)), (12, .int .i64 v267)] H [f265] F a w ∧ (c_263.length = 16) ∧ (Blk f265 b239 (c_263.flatMap (ci .i64)) 136) ∧ (huff_count.l1 K lengths234 k268 c_263 v267).wp kr kp) K ?_ ?_ ?_
   ·exact ⟨(List.replicate 16 (0 : Int)), f240, (0 : Int), hS.to [0] (by kernel_rfl) ⟨rfl, rfl, rfl, rfl, trivial⟩, (List.length_replicate ..), hB241, hM⟩
   ·intro a w hI; obtain ⟨_, _, _, _, _, _, hM⟩ := hI; exact wp_fail hM
   ·intro k268 a w hI J280 hJ280
    obtain ⟨c_263, f265, v267, hS, hl264, hB266, hM⟩ := hI
    rw [huff_count.l1] at hM
    refine wp_seq <| wp_region_list <| st1 hS (bin rfl rfl rfl) rfl fun a w hS => wpList_nil <| then_n <| wp_seq <| s_cond hS rfl hM (fun hb269 hM => ?_) (fun hb269 hM => ?_)
    ·refine wp_skip ?_
     refine then_n <| wp_seq <| wp_block <| wp_seq <| wp_region_list ?_
     obtain ⟨hk270, hM⟩ := wp_chk hM
     refine st1 hS (ixV rfl rfl Tryd.runUnderlying45 Tryd.sizeOf3 hr237.wk (fun _ => rfl) rfl hk270) rfl fun a w hS => st1 hS (ldV0 rfl hr237.wk (fun _ => rfl) hk270 rfl Tryd.isAgg3) rfl fun a w hS => st1x (v := Value.int .i64) (x0 := (rd lengths234 v267)) hS (asg rfl) rfl fun n_271 a w hz hS => ?_
     have hM := lt_to hz hM; clear hz
     refine wpList_nil <| then_n <| wp_seq <| wp_seq <| wp_region_list <| st1 hS (mv rfl) rfl fun a w hS => st1 hS (bin rfl rfl rfl) rfl fun a w hS => st1 hS (mv rfl) rfl fun a w hS => g_op 2 false 18 (b := (decide (n_271 < (0 : Int)))) (r := (decide (n_271 > (15 : Int)))) hS rfl rfl rfl rfl rfl rfl rfl (fun hb a w hS K hK => ?_) rfl fun a w hS => ?_
     ·refine st1g hS rfl rfl rfl hb (mv rfl) rfl fun a w hS => ?_
      refine st1g hS rfl rfl rfl hb (bin rfl rfl rfl) rfl fun a w hS => ?_
      exact wpList_nil (hK _ _ (hS.up 2 rfl rfl))
     refine wpList_nil <| then_n <| s_cond hS rfl hM (fun hb272 hM => ?_) (fun hb272 hM => ?_)
     ·refine wp_seq ?_
      refine wp_region_list <| st1 hS (ldAr (xs := c_263) (g := (ci .i64)) (pre := []) (post := []) 0 rfl hB266 rfl (by simp) rfl (flat_ln (g := (ci .i64)) (sz := 1) (fun _ => rfl) hl264) Tryd.isAgg136 Tryd.sizeOf136) rfl fun a w hS => stAr (xs := c_263) (ys := c_263) (g := (ci .i64)) (pre := []) (post := []) 0 hS rfl rfl hB266 rfl (by simp) rfl (flat_ln (g := (ci .i64)) (sz := 1) (fun _ => rfl) hl264) (flat_ln (g := (ci .i64)) (sz := 1) (fun _ => rfl) hl264) (one_t3) Tryd.sizeOf136 fun w f273 hB274 hS => ?_
      replace hB274 : Blk f273 b239 (c_263.flatMap (ci .i64)) 136 := by simpa using hB274
      refine st1 hS (asg rfl) rfl fun a w hS => wpList_nil <| then_n <| wp_ret <| then_ret (blk_ret (then_ret (then_ret (blk_ret (then_ret ?_)))))
      exact s_retC (vs := [.agg ⟨c_263.flatMap (ci .i64)⟩, .bool false]) hS rfl (by exact ⟨rvR 0 rfl hB274 rfl (flat_ln (g := (ci .i64)) (sz := 1) (fun _ => rfl) hl264) Tryd.isAgg136 Tryd.sizeOf136, rvT rfl, trivial⟩) (hret c_263 false w (wp_ok hM) hl264 (hS.st.pick [] (by kernel_rfl)))
     ·refine wp_skip ?_
      refine then_n <| wp_region_list <| st1 hS (mv rfl) rfl fun a w hS => ?_
      obtain ⟨hk275, hM⟩ := wp_chk hM
      refine st1 hS (ixB rfl rfl Tryd.runUnderlying136 Tryd.sizeOf3 hk275) rfl fun a w hS => st1 hS (ldR (xs := c_263) (g := (ci .i64)) (pre := []) (post := []) 0 rfl hB266 rfl (by simp) rfl (fun _ => rfl) (inb_len hl264 hk275) rfl Tryd.isAgg3) rfl fun a w hS => st1 hS (bin rfl rfl rfl) rfl fun a w hS => st1 hS (ixB rfl rfl Tryd.runUnderlying136 Tryd.sizeOf3 hk275) rfl fun a w hS => stR (xs := c_263) (g := (ci .i64)) (pre := []) (post := []) 0 ((w64 ((rd c_263 n_271) + (1 : Int)))) hS rfl rfl hB266 rfl (by simp) rfl (fun _ => rfl) (inb_len hl264 hk275) rfl Tryd.sizeOf3 (one_t3 _) fun zs278 w f276 hz hB277 hS => ?_
      have hl279 : zs278.length = 16 := by rw [hz, List.length_set]; exact hl264
      have hM := lt_to hz hM; clear hz
      replace hB277 : Blk f276 b239 (zs278.flatMap (ci .i64)) 136 := by simpa using hB277
      refine wpList_nil <| blk_n (then_n ?_)
      refine wp_region_list <| st1 hS (bin rfl rfl rfl) rfl fun a w hS => st1 hS (mv rfl) rfl fun a w hS => wpList_nil <| then_n ?_
      exact hJ280 _ _ ⟨zs278, f276, (w64 (v267 + (1 : Int))), hS.to [0] (by kernel_rfl) ⟨rfl, rfl, rfl, rfl, trivial⟩, hl279, hB277, hM⟩
    ·refine wp_exit ?_
     refine then_ex (then_ex (blk_same (then_n ?_)))
     exact hJ285 _ _ ⟨c_263, f265, hS.to [0] (by kernel_rfl) ⟨rfl, trivial⟩, hl264, hB266, hM⟩
  ·intro a w hI
   obtain ⟨c_281, f283, hS, hl282, hB284, hM⟩ := hI
   rw [huff_count.j2] at hM
   refine wp_seq <| wp_region_list <| st1 hS (ixB rfl rfl Tryd.runUnderlying136 Tryd.sizeOf3 rfl) rfl fun a w hS => stR (xs := c_281) (g := (ci .i64)) (pre := []) (post := []) 0 ((0 : Int)) hS rfl rfl hB284 rfl (by simp) rfl (fun _ => rfl) (inb_len hl282 rfl) rfl Tryd.sizeOf3 (one_t3 _) fun zs288 w f286 hz hB287 hS => ?_
   have hl289 : zs288.length = 16 := by rw [hz, List.length_set]; exact hl282
   have hM := lt_to hz hM; clear hz
   replace hB287 : Blk f286 b239 (zs288.flatMap (ci .i64)) 136 := by simpa using hB287
   refine wpList_nil <| then_n <| wp_seq <| wp_region_list <| st1 hS (ldAr (xs := zs288) (g := (ci .i64)) (pre := []) (post := []) 0 rfl hB287 rfl (by simp) rfl (flat_ln (g := (ci .i64)) (sz := 1) (fun _ => rfl) hl289) Tryd.isAgg136 Tryd.sizeOf136) rfl fun a w hS => stAr (xs := zs288) (ys := zs288) (g := (ci .i64)) (pre := []) (post := []) 0 hS rfl rfl hB287 rfl (by simp) rfl (flat_ln (g := (ci .i64)) (sz := 1) (fun _ => rfl) hl289) (flat_ln (g := (ci .i64)) (sz := 1) (fun _ => rfl) hl289) (one_t3) Tryd.sizeOf136 fun w f290 hB291 hS => ?_
   replace hB291 : Blk f290 b239 (zs288.flatMap (ci .i64)) 136 := by simpa using hB291
   refine st1 hS (asg rfl) rfl fun a w hS => wpList_nil <| then_n <| wp_ret ?_
   exact s_retC (vs := [.agg ⟨zs288.flatMap (ci .i64)⟩, .bool true]) hS rfl (by exact ⟨rvR 0 rfl hB291 rfl (flat_ln (g := (ci .i64)) (sz := 1) (fun _ => rfl) hl289) Tryd.isAgg136 Tryd.sizeOf136, rvT rfl, trivial⟩) (hret zs288 true w (wp_ok hM) hl289 (hS.st.pick [] (by kernel_rfl)))

theorem huff_Check_c {H : Imm} {F : List Frag} {w : World} {R : Ending → World → Prop} {kr : Int → Prop} {kp : Value → Prop} (hG : Gl H) (K : Nat) (lengths229 : List Int) (A230 : Option Addr) (c231 : Nat) (hr232 : Rdl H [] F (ci .i64) A230 lengths229) (hc233 : lengths229.length ≤ c231)
    (hS : St w H [] F) (hm : (huff_Check.m K lengths229).wp kr kp)
    (hret : ∀ (x316 : Int) (w : World), kr x316 → St w H [] F → R (.returned (.int .i64 x316)) w) :
    Calls Tryd.prog 77 ⟨[.slice A230 lengths229.length c231]⟩ w R := by
 refine enter Tryd.func77 rfl Tryd.ntmps77 rfl hS fun a w hS => ?_
 have hM := hm; clear hm
 rw [huff_Check.m] at hM
 refine wp_seq <| wp_region_list <| st1 hS (asg rfl) rfl fun a w hS => wpList_nil <| then_n <| wp_seq <| wp_region_list <| st1 hS (mv rfl) rfl fun a w hS => s_call hS rfl Tryd.call78 (huff_count_c hG K lengths229 A230 c231 (hr232.app _) hc233 (hS.st.part 0 [] (by kernel_rfl)) (wp_bind hM) (fun x295 x296 w hM h297 hst => s_back hS.ev hst.appF rfl fun hS => ?_))
 replace hS : Ss _ _ _ H [] F _ _ := hS
 refine st1 hS (mv rfl) rfl fun a w hS => st1 hS (ex rfl rfl) rfl fun a w hS => st1 hS (ex rfl rfl) rfl fun a w hS => alc ((List.replicate 16 (0 : Int)).flatMap (ci .i64)) hS Tryd.zeroValue136 rfl rfl fun w b298 f299 hB300 hS => stAr (xs := (List.replicate 16 (0 : Int))) (ys := x295) (g := (ci .i64)) (pre := []) (post := []) 0 hS rfl rfl hB300 rfl (by simp) rfl (flat_ln (g := (ci .i64)) (sz := 1) (fun _ => rfl) (List.length_replicate ..)) (flat_ln (g := (ci .i64)) (sz := 1) (fun _ => rfl) h297) (one_t3) Tryd.sizeOf136 fun w f301 hB302 hS => ?_
 replace hB302 : Blk f301 b298 (x295.flatMap (ci .i64)) 136 := by simpa using hB302
 refine st1 hS (asg rfl) rfl fun a w hS => wpList_nil <| then_n <| wp_seq <| wp_seq <| wp_region_list <| st1 hS (mv rfl) rfl fun a w hS => st1 hS (un rfl rfl) rfl fun a w hS => wpList_nil <| then_n <| s_cond hS rfl hM (fun hb303 hM => ?_) (fun hb303 hM => ?_)
 ·refine wp_seq ?_
  refine wp_region_list <| st1 hS (asg rfl) rfl fun a w hS => wpList_nil <| then_n <| wp_ret <| then_ret ?_
  exact s_ret (rs := [2]) hS rfl rfl (hret (1 : Int) w (wp_ok hM) (hS.st.pick [] (by kernel_rfl)))
 ·refine wp_skip ?_
  refine then_n <| wp_seq <| wp_region_list <| st1 hS (asg rfl) rfl fun a w hS => wpList_nil <| then_n <| seq_joinJ (fun a w => ∃ (sum313 : Int), Ss 38 [] [(3, ptr b298 0), (5, .int .i64 sum313)] H [f301] F a w ∧ (huff_Check.j2 K x295 sum313).wp kr kp) (fun J314 hJ314 => ?_) ?_
  ·refine wp_seq ?_
   refine wp_region_list <| st1 hS (ldAr (xs := x295) (g := (ci .i64)) (pre := []) (post := []) 0 rfl hB302 rfl (by simp) rfl (flat_ln (g := (ci .i64)) (sz := 1) (fun _ => rfl) h297) Tryd.isAgg136 Tryd.sizeOf136) rfl fun a w hS => st1 hS (mv rfl) rfl fun a w hS => wpList_nil <| then_n <| wp_block <| s_loopJ (fun k306 a w => ∃ (sum304 : Int) (v305 : Int), Ss 38 [] [(3, ptr b298 0), (5, .int .i64 sum304), (15, .agg ⟨x295.flatMap (ci .i64)⟩), (16, .int .i64 v305)] H [f301] F a w ∧ (huff_Check.l1 K x295 k306 sum304 v305).wp kr kp) K ?_ ?_ ?_
   ·exact ⟨(0 : Int), (0 : Int), hS.to [0] (by kernel_rfl) ⟨rfl, rfl, rfl, rfl, trivial⟩, hM⟩
   ·intro a w hI; obtain ⟨_, _, _, hM⟩ := hI; exact wp_fail hM
   ·intro k306 a w hI J312 hJ312
    obtain ⟨sum304, v305, hS, hM⟩ := hI
    rw [huff_Check.l1] at hM
    refine wp_seq <| wp_region_list <| st1 hS (bin rfl rfl rfl) rfl fun a w hS => wpList_nil <| then_n <| wp_seq <| s_cond hS rfl hM (fun hb307 hM => ?_) (fun hb307 hM => ?_)
    ·refine wp_skip ?_
     refine then_n <| wp_seq <| wp_block <| wp_seq <| wp_region_list <| st1 hS (mv rfl) rfl fun a w hS => ?_
     obtain ⟨hk308, hM⟩ := wp_chk hM
     refine st1 hS (ixA rfl rfl Tryd.runUnderlying136 Tryd.isAgg3 Tryd.sizeOf3 (fun _ => rfl) h297 hk308 rfl) rfl fun a w hS => st1 hS (asg rfl) rfl fun a w hS => st1x (v := Value.int .i64) (x0 := (rd x295 v305)) hS (asg rfl) rfl fun k_309 a w hz hS => ?_
     have hM := lt_to hz hM; clear hz
     refine wpList_nil <| then_n <| wp_region_list <| st1 hS (mv rfl) rfl fun a w hS => st1 hS (mv rfl) rfl fun a w hS => st1 hS (mv rfl) rfl fun a w hS => ?_
     obtain ⟨hk310, hM⟩ := wp_chk hM
     refine st1 hS (shr rfl rfl hk310) rfl fun a w hS => st1 hS (bin rfl rfl rfl) rfl fun a w hS => st1 hS (bin rfl rfl rfl) rfl fun a w hS => st1x (v := Value.int .i64) (x0 := (w64 (sum304 + (w64 (k_309 * (ishr .i64 (32768 : Int) v305)))))) hS (asg rfl) rfl fun sum311 a w hz hS => ?_
     have hM := lt_to hz hM; clear hz
     refine wpList_nil <| blk_n (then_n ?_)
     refine wp_region_list <| st1 hS (bin rfl rfl rfl) rfl fun a w hS => st1 hS (mv rfl) rfl fun a w hS => wpList_nil <| then_n ?_
     exact hJ312 _ _ ⟨sum311, (w64 (v305 + (1 : Int))), hS.to [0] (by kernel_rfl) ⟨rfl, rfl, rfl, rfl, trivial⟩, hM⟩
    ·refine wp_exit ?_
     refine then_ex (then_ex (blk_same (then_n ?_)))
     exact hJ314 _ _ ⟨sum304, hS.to [0] (by kernel_rfl) ⟨rfl, rfl, trivial⟩, hM⟩
  ·intro a w hI
   obtain ⟨sum313, hS, hM⟩ := hI
   rw [huff_Check.j2] at hM
   refine wp_seq <| wp_seq <| wp_region_list <| st1 hS (mv rfl) rfl fun a w hS => st1 hS (bin rfl rfl rfl) rfl fun a w hS => st1 hS (mv rfl) rfl fun a w hS => g_op 2 false 29 (b := (sum313 == (0 : Int))) (r := (sum313 == (32768 : Int))) hS rfl rfl rfl rfl rfl rfl rfl (fun hb a w hS K hK => ?_) rfl fun a w hS => ?_
   ·refine st1g hS rfl rfl rfl hb (mv rfl) rfl fun a w hS => ?_
    refine st1g hS rfl rfl rfl hb (bin rfl rfl rfl) rfl fun a w hS => ?_
    exact wpList_nil (hK _ _ (hS.up 2 rfl rfl))
   refine st1 hS (mv rfl) rfl fun a w hS => g_op 3 false 33 (b := ((sum313 == (0 : Int)) || (sum313 == (32768 : Int)))) (r := (x295 == ([0, (1 : Int), 0, 0, 0, 0, 0, 0, 0, 0, 0, 0, 0, 0, 0, 0] : List Int))) hS rfl rfl rfl rfl rfl rfl rfl (fun hb a w hS K hK => ?_) rfl fun a w hS => ?_
   ·refine st1g hS rfl rfl rfl hb (ldAr (xs := x295) (g := (ci .i64)) (pre := []) (post := []) 0 rfl hB302 rfl (by simp) rfl (flat_ln (g := (ci .i64)) (sz := 1) (fun _ => rfl) h297) Tryd.isAgg136 Tryd.sizeOf136) rfl fun a w hS => ?_
    refine st1g hS rfl rfl rfl hb (bldAr (([0, (1 : Int), 0, 0, 0, 0, 0, 0, 0, 0, 0, 0, 0, 0, 0, 0] : List Int).flatMap (ci .i64)) Tryd.zeroValue136 Tryd.runUnderlying136 Tryd.sizeOf3 rfl (by kernel_rfl)) rfl fun a w hS => st1g hS rfl rfl rfl hb (eqArr rfl rfl Tryd.runUnderlying136 Tryd.runUnderlying3 Tryd.sizeOf3 Tryd.isAgg3 h297 rfl Tryd.eqGuardType136 rfl) rfl fun a w hS => ?_
    exact wpList_nil (hK _ _ (hS.up 3 rfl rfl))
   refine wpList_nil <| then_n <| s_cond hS rfl hM (fun hb315 hM => ?_) (fun hb315 hM => ?_)
   ·refine wp_seq ?_
    refine wp_region_list <| st1 hS (asg rfl) rfl fun a w hS => wpList_nil <| then_n <| wp_ret <| then_ret ?_
    exact s_ret (rs := [2]) hS rfl rfl (hret (0 : Int) w (wp_ok hM) (hS.st.pick [] (by kernel_rfl)))
   ·refine wp_skip ?_
    refine then_n <| wp_seq <| wp_region_list <| st1 hS (asg rfl) rfl fun a w hS => wpList_nil <| then_n <| wp_ret ?_
    exact s_ret (rs := [2]) hS rfl rfl (hret (3 : Int) w (wp_ok hM) (hS.st.pick [] (by kernel_rfl)))

theorem huff_counted_firsts_c {H : Imm} {F : List Frag} {w : World} {R : Ending → World → Prop} {kr : (List Int) → Prop} {kp : Value → Prop} (hG : Gl H) (K : Nat) (c_329 : List Int) (hl330 : c_329.length = 16)
    (hS : St w H [] F) (hm : (huff_counted_firsts.m K c_329).wp kr kp)
    (hret : ∀ (x379 : (List Int)) (w : World), kr x379 → (x379.length = 16) → St w H [] F → R (.returned (.agg ⟨x379.flatMap (ci .i64)⟩)) w) :
    Calls Tryd.prog 79 ⟨[.agg ⟨c_329.flatMap (ci .i64)⟩]⟩ w R := by
 refine enter Tryd.func79 rfl Tryd.ntmps79 rfl hS fun a w hS => ?_
 have hM := hm; clear hm
 rw [huff_counted_firsts.m] at hM
 refine wp_seq <| wp_region_list <| bx (c_329.flatMap (ci .i64)) hS rfl rfl rfl fun w b331 f332 hB333 hS => alc ((List.replicate 16 (0 : Int)).flatMap (ci .i64)) hS Tryd.zeroValue136 rfl rfl fun w b334 f335 hB336 hS => wpList_nil <| then_n <| wp_seq <| wp_region_list <| st1 hS (asg rfl) rfl fun a w hS => wpList_nil <| then_n <| seq_joinJ (fun a w => ∃ (first372 : (List Int)) (f374 : Frag), Ss 20 [] [(2, ptr b334 0)] H [f374] F a w ∧ (first372.length = 16) ∧ (Blk f374 b334 (first372.flatMap (ci .i64)) 136) ∧ (huff_counted_firsts.j2 K first372).wp kr kp) (fun J376 hJ376 => ?_) ?_
 ·refine wp_seq ?_
  refine wp_region_list <| st1 hS (asg rfl) rfl fun a w hS => wpList_nil <| then_n <| wp_block <| s_loopJ (fun k361 a w => ∃ (first355 : (List Int)) (f357 : Frag) (code359 : Int) (n_360 : Int), Ss 20 [] [(1, ptr b331 0), (2, ptr b334 0), (3, .int .i64 code359), (4, .int .i64 n_360)] H [f332, f357] F a w ∧ (first355.length = 16) ∧ (Blk f357 b334 (first355.flatMap (ci .i64)) 136) ∧ (huff_counted_firsts.l1 K c_329 k361 first355 code359 n_360).wp kr kp) K ?_ ?_ ?_
  ·exact ⟨(List.replicate 16 (0 : Int)), f335, (0 : Int), (1 : Int), hS.to [1, 0] (by kernel_rfl) ⟨rfl, rfl, rfl, rfl, trivial⟩, (List.length_replicate ..), hB336, hM⟩
  ·intro a w hI; obtain ⟨_, _, _, _, _, _, _, hM⟩ := hI; exact wp_fail hM
  ·intro k361 a w hI J371 hJ371
   obtain ⟨first355, f357, code359, n_360, hS, hl356, hB358, hM⟩ := hI
   rw [huff_counted_firsts.l1] at hM
   refine wp_seq <| wp_seq <| wp_region_list <| st1 hS (mv rfl) rfl fun a w hS => st1 hS (bin rfl rfl rfl) rfl fun a w hS => wpList_nil <| then_n <| s_cond hS rfl hM (fun hb362 hM => ?_) (fun hb362 hM => ?_)
   ·refine wp_skip ?_
    refine then_n <| wp_seq <| wp_block <| wp_seq <| wp_region_list <| st1 hS (mv rfl) rfl fun a w hS => st1 hS (mv rfl) rfl fun a w hS => st1 hS (bin rfl rfl rfl) rfl fun a w hS => ?_
    obtain ⟨hk363, hM⟩ := wp_chk hM
    refine st1 hS (ixB rfl rfl Tryd.runUnderlying136 Tryd.sizeOf3 hk363) rfl fun a w hS => st1 hS (ldR (xs := c_329) (g := (ci .i64)) (pre := []) (post := []) 0 rfl hB333 rfl (by simp) rfl (fun _ => rfl) (inb_len hl330 hk363) rfl Tryd.isAgg3) rfl fun a w hS => st1 hS (bin rfl rfl rfl) rfl fun a w hS => st1 hS (shl rfl rfl rfl) rfl fun a w hS => st1x (v := Value.int .i64) (x0 := (ishl .i64 (w64 (code359 + (rd c_329 (w64 (n_360 - (1 : Int)))))) (1 : Int))) hS (asg rfl) rfl fun code364 a w hz hS => ?_
    have hM := lt_to hz hM; clear hz
    refine wpList_nil <| then_n <| wp_region_list <| st1 hS (mv rfl) rfl fun a w hS => st1 hS (mv rfl) rfl fun a w hS => ?_
    obtain ⟨hk365, hM⟩ := wp_chk hM
    refine st1 hS (ixB rfl rfl Tryd.runUnderlying136 Tryd.sizeOf3 hk365) rfl fun a w hS => stR (xs := first355) (g := (ci .i64)) (pre := []) (post := []) 1 (code364) hS rfl rfl hB358 rfl (by simp) rfl (fun _ => rfl) (inb_len hl356 hk365) rfl Tryd.sizeOf3 (one_t3 _) fun zs368 w f366 hz hB367 hS => ?_
    have hl369 : zs368.length = 16 := by rw [hz, List.length_set]; exact hl356
    have hM := lt_to hz hM; clear hz
    replace hB367 : Blk f366 b334 (zs368.flatMap (ci .i64)) 136 := by simpa using hB367
    refine wpList_nil <| blk_n (then_n ?_)
    refine wp_region_list <| st1 hS (mv rfl) rfl fun a w hS => st1 hS (bin rfl rfl rfl) rfl fun a w hS => st1x (v := Value.int .i64) (x0 := (w64 (n_360 + (1 : Int)))) hS (asg rfl) rfl fun n_370 a w hz hS => ?_
    have hM := lt_to hz hM; clear hz
    refine wpList_nil <| then_n ?_
    exact hJ371 _ _ ⟨zs368, f366, code364, n_370, hS.to [0, 1] (by kernel_rfl) ⟨rfl, rfl, rfl, rfl, trivial⟩, hl369, hB367, hM⟩
   ·refine wp_exit ?_
    refine then_ex (then_ex (blk_same (then_n ?_)))
    exact hJ376 _ _ ⟨first355, f357, hS.to [1] (by kernel_rfl) ⟨rfl, trivial⟩, hl356, hB358, hM⟩
 ·intro a w hI
  obtain ⟨first372, f374, hS, hl373, hB375, hM⟩ := hI
  rw [huff_counted_firsts.j2] at hM
  refine wp_seq <| wp_region_list <| st1 hS (ldAr (xs := first372) (g := (ci .i64)) (pre := []) (post := []) 0 rfl hB375 rfl (by simp) rfl (flat_ln (g := (ci .i64)) (sz := 1) (fun _ => rfl) hl373) Tryd.isAgg136 Tryd.sizeOf136) rfl fun a w hS => stAr (xs := first372) (ys := first372) (g := (ci .i64)) (pre := []) (post := []) 0 hS rfl rfl hB375 rfl (by simp) rfl (flat_ln (g := (ci .i64)) (sz := 1) (fun _ => rfl) hl373) (flat_ln (g := (ci .i64)) (sz := 1) (fun _ => rfl) hl373) (one_t3) Tryd.sizeOf136 fun w f377 hB378 hS => ?_
  replace hB378 : Blk f377 b334 (first372.flatMap (ci .i64)) 136 := by simpa using hB378
  refine wpList_nil <| then_n <| wp_ret ?_
  exact s_retC (vs := [.agg ⟨first372.flatMap (ci .i64)⟩]) hS rfl (by exact ⟨rvR 0 rfl hB378 rfl (flat_ln (g := (ci .i64)) (sz := 1) (fun _ => rfl) hl373) Tryd.isAgg136 Tryd.sizeOf136, trivial⟩) (hret first372 w (wp_ok hM) hl373 (hS.st.pick [] (by kernel_rfl)))

theorem huff_Codes_c {H : Imm} {F : List Frag} {w : World} {R : Ending → World → Prop} {kr : ((List Int) × Int) → Prop} {kp : Value → Prop} (hG : Gl H) (K : Nat) (lengths222 : List Int) (A223 : Option Addr) (c224 : Nat) (hr225 : Rdl H [] F (ci .i64) A223 lengths222) (hc226 : lengths222.length ≤ c224)
    (hS : St w H [] F) (hm : (huff_Codes.m K lengths222).wp kr kp)
    (hret : ∀ (A442 : Option Addr) (c443 : Nat) (x444 : (List Int)) (f445 : Frag) (x447 : Int) (w : World), kr (x444, x447) → (Vec 3 (ci .i64) 1 A442 x444 c443 f445) → St w H [f445] F → R (.returned (.tuple ⟨[.slice A442 x444.length c443, .int .i64 x447]⟩)) w) :
    Calls Tryd.prog 53 ⟨[.slice A223 lengths222.length c224]⟩ w R := by
 refine enter Tryd.func53 rfl Tryd.ntmps53 rfl hS fun a w hS => ?_
 have hM := hm; clear hm
 rw [huff_Codes.m] at hM
 refine wp_seq <| wp_region_list <| st1 hS (asg rfl) rfl fun a w hS => ?_
 obtain ⟨f227, hV228, hS⟩ := hS.nilV 3 (ci .i64) 1
 refine st1 hS (asg rfl) rfl fun a w hS => wpList_nil <| then_n <| wp_seq <| wp_seq <| wp_region_list <| st1 hS (mv rfl) rfl fun a w hS => s_call hS rfl Tryd.call77 (huff_Check_c hG K lengths222 A223 c224 (hr225.app _) hc226 (hS.st.part 0 [0] (by kernel_rfl)) (wp_bind hM) (fun x317 w hM  hst => s_back hS.ev hst.appF rfl fun hS => ?_))
 replace hS : Ss _ _ _ H [f227] F _ _ := hS
 refine st1 hS (asg rfl) rfl fun a w hS => wpList_nil <| then_n <| wp_seq <| wp_region_list <| st1 hS (mv rfl) rfl fun a w hS => st1 hS (bin rfl rfl rfl) rfl fun a w hS => wpList_nil <| then_n <| s_cond hS rfl hM (fun hb318 hM => ?_) (fun hb318 hM => ?_)
 ·refine wp_seq ?_
  refine wp_region_list <| st1 hS (mv rfl) rfl fun a w hS => st1 hS (asg rfl) rfl fun a w hS => ?_
  obtain ⟨f319, hV320, hS⟩ := hS.nilV 3 (ci .i64) 1
  refine st1 hS (asg rfl) rfl fun a w hS => wpList_nil <| then_n <| wp_ret <| then_ret ?_
  exact s_ret (rs := [2, 3]) hS rfl rfl (hret none (0) ([] : List Int) f319 x317 w (wp_ok hM) hV320 (hS.st.pick [0] (by kernel_rfl)))
 ·refine wp_skip ?_
  refine then_n <| wp_seq <| wp_region_list <| st1 hS (mv rfl) rfl fun a w hS => s_call hS rfl Tryd.call78 (huff_count_c hG K lengths222 A223 c224 (hr225.app _) hc226 (hS.st.part 0 [0] (by kernel_rfl)) (wp_bind hM) (fun x321 x322 w hM h323 hst => s_back hS.ev hst.appF rfl fun hS => ?_))
  replace hS : Ss _ _ _ H [f227] F _ _ := hS
  refine st1 hS (mv rfl) rfl fun a w hS => st1 hS (ex rfl rfl) rfl fun a w hS => st1 hS (ex rfl rfl) rfl fun a w hS => alc ((List.replicate 16 (0 : Int)).flatMap (ci .i64)) hS Tryd.zeroValue136 rfl rfl fun w b324 f325 hB326 hS => stAr (xs := (List.replicate 16 (0 : Int))) (ys := x321) (g := (ci .i64)) (pre := []) (post := []) 0 hS rfl rfl hB326 rfl (by simp) rfl (flat_ln (g := (ci .i64)) (sz := 1) (fun _ => rfl) (List.length_replicate ..)) (flat_ln (g := (ci .i64)) (sz := 1) (fun _ => rfl) h323) (one_t3) Tryd.sizeOf136 fun w f327 hB328 hS => ?_
  replace hB328 : Blk f327 b324 (x321.flatMap (ci .i64)) 136 := by simpa using hB328
  refine st1 hS (asg rfl) rfl fun a w hS => wpList_nil <| then_n <| wp_seq <| wp_region_list <| st1 hS (ldAr (xs := x321) (g := (ci .i64)) (pre := []) (post := []) 0 rfl hB328 rfl (by simp) rfl (flat_ln (g := (ci .i64)) (sz := 1) (fun _ => rfl) h323) Tryd.isAgg136 Tryd.sizeOf136) rfl fun a w hS => s_call hS rfl Tryd.call79 (huff_counted_firsts_c hG K x321 h323 (hS.st.part 0 [0, 1] (by kernel_rfl)) (wp_bind hM) (fun x381 w hM h382 hst => s_back hS.ev hst.appF rfl fun hS => ?_))
  replace hS : Ss _ _ _ H [f327, f227] F _ _ := hS
  refine alc ((List.replicate 16 (0 : Int)).flatMap (ci .i64)) hS Tryd.zeroValue136 rfl rfl fun w b383 f384 hB385 hS => stAr (xs := (List.replicate 16 (0 : Int))) (ys := x381) (g := (ci .i64)) (pre := []) (post := []) 0 hS rfl rfl hB385 rfl (by simp) rfl (flat_ln (g := (ci .i64)) (sz := 1) (fun _ => rfl) (List.length_replicate ..)) (flat_ln (g := (ci .i64)) (sz := 1) (fun _ => rfl) h382) (one_t3) Tryd.sizeOf136 fun w f386 hB387 hS => ?_
  replace hB387 : Blk f386 b383 (x381.flatMap (ci .i64)) 136 := by simpa using hB387
  refine wpList_nil <| then_n <| wp_seq <| wp_region_list <| st1 hS (mv rfl) rfl fun a w hS => st1 hS (lenV rfl Tryd.runUnderlying45) rfl fun a w hS => ?_
  obtain ⟨hk388, hM⟩ := wp_chk hM
  refine mkS (g := (ci .i64)) (m := (lengths222.length : Int)) (0 : Int) hS rfl rfl (by simp) Tryd.runUnderlying45 X.el3 (fun w => ⟨_, Tryd.zeroValue3 w, rfl⟩) (fun _ => rfl) rfl rfl hk388 rfl fun zs393 w A389 c390 f391 hz hV392 hS => ?_
  have hM := lt_to hz hM; clear hz
  refine st1 hS (asg rfl) rfl fun a w hS => wpList_nil <| then_n <| wp_seq <| wp_seq <| wp_region_list <| st1 hS (mv rfl) rfl fun a w hS => st1 hS (lenV rfl Tryd.runUnderlying45) rfl fun a w hS => st1 hS (mv rfl) rfl fun a w hS => wpList_nil <| then_n <| wp_block <| s_loopJ (fun k426 a w => ∃ (next418 : (List Int)) (f420 : Frag) (out422 : (List Int)) (f423 : Frag) (v425 : Int), Ss 48 [] [(7, ptr b383 0), (8, .slice A389 out422.length c390), (26, .slice A223 lengths222.length c224), (27, .int .i64 (lengths222.length : Int)), (28, .int .i64 v425)] H [f420, f423] F a w ∧ (next418.length = 16) ∧ (Blk f420 b383 (next418.flatMap (ci .i64)) 136) ∧ (Vec 3 (ci .i64) 1 A389 out422 c390 f423) ∧ (huff_Codes.l1 K lengths222 k426 next418 out422 v425).wp kr kp) K ?_ ?_ ?_
  ·exact ⟨x381, f386, zs393, f391, (0 : Int), hS.to [1, 0] (by kernel_rfl) ⟨rfl, rfl, rfl, rfl, rfl, trivial⟩, h382, hB387, hV392, hM⟩
  ·intro a w hI; obtain ⟨_, _, _, _, _, _, _, _, _, hM⟩ := hI; exact wp_fail hM
  ·intro k426 a w hI J441 hJ441
   obtain ⟨next418, f420, out422, f423, v425, hS, hl419, hB421, hV424, hM⟩ := hI
   rw [huff_Codes.l1] at hM
   refine wp_seq <| wp_region_list <| st1 hS (bin rfl rfl rfl) rfl fun a w hS => wpList_nil <| then_n <| wp_seq <| s_cond hS rfl hM (fun hb427 hM => ?_) (fun hb427 hM => ?_)
   ·refine wp_skip ?_
    refine then_n <| wp_seq <| wp_block <| wp_seq <| wp_region_list <| st1 hS (mv rfl) rfl fun a w hS => ?_
    obtain ⟨hk428, hM⟩ := wp_chk hM
    refine st1 hS (ixV rfl rfl Tryd.runUnderlying45 Tryd.sizeOf3 hr225.wk (fun _ => rfl) rfl hk428) rfl fun a w hS => st1 hS (ldV0 rfl hr225.wk (fun _ => rfl) hk428 rfl Tryd.isAgg3) rfl fun a w hS => st1 hS (asg rfl) rfl fun a w hS => st1x (v := Value.int .i64) (x0 := (rd lengths222 v425)) hS (asg rfl) rfl fun n_429 a w hz hS => ?_
    have hM := lt_to hz hM; clear hz
    refine wpList_nil <| then_n <| wp_seq <| wp_region_list <| st1 hS (mv rfl) rfl fun a w hS => st1 hS (bin rfl rfl rfl) rfl fun a w hS => wpList_nil <| then_n <| s_cond hS rfl hM (fun hb430 hM => ?_) (fun hb430 hM => ?_)
    ·refine wp_seq ?_
     refine wp_region_list <| st1 hS (mv rfl) rfl fun a w hS => st1 hS (mv rfl) rfl fun a w hS => st1 hS (mv rfl) rfl fun a w hS => ?_
     obtain ⟨hk431, hM⟩ := wp_chk hM
     refine st1 hS (ixB rfl rfl Tryd.runUnderlying136 Tryd.sizeOf3 hk431) rfl fun a w hS => st1 hS (ldR (xs := next418) (g := (ci .i64)) (pre := []) (post := []) 0 rfl hB421 rfl (by simp) rfl (fun _ => rfl) (inb_len hl419 hk431) rfl Tryd.isAgg3) rfl fun a w hS => ?_
     obtain ⟨hk432, hM⟩ := wp_chk hM
     refine st1 hS (ixV rfl rfl Tryd.runUnderlying45 Tryd.sizeOf3 (hV424.rd (i := 1) rfl) (fun _ => rfl) rfl hk432) rfl fun a w hS => stV (i := v425) (sz := 1) 1 0 ((rd next418 n_429)) hS rfl rfl hV424 rfl Tryd.sizeOf3 (one_t3 (rd next418 n_429)) (fun _ => rfl) hk432 rfl rfl fun zs435 w f433 hz hz436 hV434 hS => ?_
     have hM := lt_to hz hM; clear hz
     replace hS := hS.re 8 (u := .slice A389 out422.length c390) (v := .slice A389 zs435.length c390) rfl (by rw [hz436])
     replace hS := hS.re 35 (u := .slice A389 out422.length c390) (v := .slice A389 zs435.length c390) rfl (by rw [hz436])
     refine wpList_nil <| then_n <| wp_region_list <| st1 hS (mv rfl) rfl fun a w hS => st1 hS (ixB rfl rfl Tryd.runUnderlying136 Tryd.sizeOf3 hk431) rfl fun a w hS => st1 hS (ldR (xs := next418) (g := (ci .i64)) (pre := []) (post := []) 0 rfl hB421 rfl (by simp) rfl (fun _ => rfl) (inb_len hl419 hk431) rfl Tryd.isAgg3) rfl fun a w hS => st1 hS (bin rfl rfl rfl) rfl fun a w hS => st1 hS (ixB rfl rfl Tryd.runUnderlying136 Tryd.sizeOf3 hk431) rfl fun a w hS => stR (xs := next418) (g := (ci .i64)) (pre := []) (post := []) 0 ((w64 ((rd next418 n_429) + (1 : Int)))) hS rfl rfl hB421 rfl (by simp) rfl (fun _ => rfl) (inb_len hl419 hk431) rfl Tryd.sizeOf3 (one_t3 _) fun zs439 w f437 hz hB438 hS => ?_
     have hl440 : zs439.length = 16 := by rw [hz, List.length_set]; exact hl419
     have hM := lt_to hz hM; clear hz
     replace hB438 : Blk f437 b383 (zs439.flatMap (ci .i64)) 136 := by simpa using hB438
     refine wpList_nil <| blk_n (then_n ?_)
     refine wp_region_list <| st1 hS (bin rfl rfl rfl) rfl fun a w hS => st1 hS (mv rfl) rfl fun a w hS => wpList_nil <| then_n ?_
     exact hJ441 _ _ ⟨zs439, f437, zs435, f433, (w64 (v425 + (1 : Int))), hS.to [0, 1] (by kernel_rfl) ⟨rfl, rfl, rfl, rfl, rfl, trivial⟩, hl440, hB438, hV434, hM⟩
    ·refine wp_skip ?_
     refine blk_n (then_n ?_)
     refine wp_region_list <| st1 hS (bin rfl rfl rfl) rfl fun a w hS => st1 hS (mv rfl) rfl fun a w hS => wpList_nil <| then_n ?_
     exact hJ441 _ _ ⟨next418, f420, out422, f423, (w64 (v425 + (1 : Int))), hS.to [0, 1] (by kernel_rfl) ⟨rfl, rfl, rfl, rfl, rfl, trivial⟩, hl419, hB421, hV424, hM⟩
   ·refine wp_exit ?_
    refine then_ex (then_ex (blk_same (then_n ?_)))
    refine wp_seq <| wp_region_list <| st1 hS (mv rfl) rfl fun a w hS => st1 hS (asg rfl) rfl fun a w hS => st1 hS (asg rfl) rfl fun a w hS => wpList_nil <| then_n <| wp_ret ?_
    exact s_ret (rs := [2, 3]) hS rfl rfl (hret A389 c390 out422 f423 (0 : Int) w (wp_ok hM) hV424 (hS.st.pick [1] (by kernel_rfl)))

theorem deflate_coded_c {H : Imm} {F : List Frag} {w : World} {R : Ending → World → Prop} {kr : (List Int) → Prop} {kp : Value → Prop} (hG : Gl H) (K : Nat) (lengths210 : List Int) (A211 : Option Addr) (c212 : Nat) (hr213 : Rdl H [] F (ci .i64) A211 lengths210) (hc214 : lengths210.length ≤ c212)
    (hS : St w H [] F) (hm : (deflate_coded.m K lengths210).wp kr kp)
    (hret : ∀ (A456 : Option Addr) (c457 : Nat) (codes458 : (List Int)) (f459 : Frag) (w : World), kr codes458 → (Vec 3 (ci .i64) 1 A456 codes458 c457 f459) → St w H [f459] F → R (.returned (.agg ⟨[.slice A211 lengths210.length c212, .slice A456 codes458.length c457]⟩)) w) :
    Calls Tryd.prog 37 ⟨[.slice A211 lengths210.length c212]⟩ w R := by
 refine enter Tryd.func37 rfl Tryd.ntmps37 rfl hS fun a w hS => ?_
 have hM := hm; clear hm
 rw [deflate_coded.m] at hM
 refine wp_seq <| wp_region_list <| alc ([.slice none 0 0, .slice none 0 0]) hS Tryd.zeroValue47 rfl rfl fun w b215 f216 hB217 hS => ?_
 obtain ⟨f218, hV219, hS⟩ := hS.nilV 3 (ci .i64) 1
 obtain ⟨f220, hV221, hS⟩ := hS.nilV 3 (ci .i64) 1
 refine wpList_nil <| then_n <| wp_seq <| wp_region_list <| st1 hS (mv rfl) rfl fun a w hS => s_call hS rfl Tryd.call53 (huff_Codes_c hG K lengths210 A211 c212 (hr213.app _) hc214 (hS.st.part 0 [0, 1, 2] (by kernel_rfl)) (wp_bind hM) (fun A448 c449 x450 f451 x452 w hM h453 hst => s_back hS.ev hst.appF rfl fun hS => ?_))
 replace hS : Ss _ _ _ H [f451, f220, f218, f216] F _ _ := hS
 refine st1 hS (mv rfl) rfl fun a w hS => st1 hS (ex rfl rfl) rfl fun a w hS => st1 hS (ex rfl rfl) rfl fun a w hS => st1 hS (asg rfl) rfl fun a w hS => st1 hS (asg rfl) rfl fun a w hS => wpList_nil <| then_n <| wp_seq <| wp_region_list <| st1 hS (mv rfl) rfl fun a w hS => st1 hS (mv rfl) rfl fun a w hS => st1 hS (bld ([.slice A211 lengths210.length c212, .slice A448 x450.length c449]) [(0, 1), (1, 1)] Tryd.zeroValue47 Tryd.runUnderlying47 (by intro w; simp [Tryd.sizeOf45]) rfl rfl) rfl fun a w hS => stB 3 ([.slice A211 lengths210.length c212, .slice A448 x450.length c449]) ([.slice A211 lengths210.length c212, .slice A448 x450.length c449]) hS rfl rfl hB217 rfl rfl Tryd.sizeOf47 (by simp [Value.oneCell']) (Nat.le_of_ble_eq_true rfl) rfl fun w f454 hB455 hS => wpList_nil <| then_n <| wp_ret ?_
 exact s_retC (vs := [.agg ⟨[.slice A211 lengths210.length c212, .slice A448 x450.length c449]⟩]) hS rfl (by exact ⟨rvA 3 ([.slice A211 lengths210.length c212, .slice A448 x450.length c449]) rfl hB455 rfl rfl rfl Tryd.isAgg47 Tryd.sizeOf47, trivial⟩) (hret A448 c449 x450 f451 w (wp_ok hM) h453 (hS.st.pick [0] (by kernel_rfl)))

theorem deflate_fixedCodes_c {H : Imm} {F : List Frag} {w : World} {R : Ending → World → Prop} {kr : ((List Int) × (List Int) × (List Int) × (List Int)) → Prop} {kp : Value → Prop} (hG : Gl H) (K : Nat)
    (hS : St w H [] F) (hm : (deflate_fixedCodes.m K).wp kr kp)
    (hret : ∀ (A475 : Option Addr) (c476 : Nat) (lengths477 : (List Int)) (f478 : Frag) (A480 : Option Addr) (c481 : Nat) (codes482 : (List Int)) (f483 : Frag) (A485 : Option Addr) (c486 : Nat) (lengths487 : (List Int)) (f488 : Frag) (A490 : Option Addr) (c491 : Nat) (codes492 : (List Int)) (f493 : Frag) (w : World), kr (lengths477, codes482, lengths487, codes492) → (Vec 3 (ci .i64) 1 A475 lengths477 c476 f478) → (Vec 3 (ci .i64) 1 A480 codes482 c481 f483) → (Vec 3 (ci .i64) 1 A485 lengths487 c486 f488) → (Vec 3 (ci .i64) 1 A490 codes492 c491 f493) → St w H [f478, f483, f488, f493] F → R (.returned (.tuple ⟨[.agg ⟨[.slice A475 lengths477.length c476, .slice A480 codes482.length c481]⟩, .agg ⟨[.slice A485 lengths487.length c486, .slice A490 codes492.length c491]⟩]⟩)) w) :
    Calls Tryd.prog 22 ⟨[]⟩ w R := by
 refine enter Tryd.func22 rfl Tryd.ntmps22 rfl hS fun a w hS => ?_
 have hM := hm; clear hm
 rw [deflate_fixedCodes.m] at hM
 refine wp_seq <| wp_region_list <| alc ([.slice none 0 0, .slice none 0 0]) hS Tryd.zeroValue47 rfl rfl fun w b100 f101 hB102 hS => ?_
 obtain ⟨f103, hV104, hS⟩ := hS.nilV 3 (ci .i64) 1
 obtain ⟨f105, hV106, hS⟩ := hS.nilV 3 (ci .i64) 1
 refine alc ([.slice none 0 0, .slice none 0 0]) hS Tryd.zeroValue47 rfl rfl fun w b107 f108 hB109 hS => ?_
 obtain ⟨f110, hV111, hS⟩ := hS.nilV 3 (ci .i64) 1
 obtain ⟨f112, hV113, hS⟩ := hS.nilV 3 (ci .i64) 1
 refine wpList_nil <| then_n <| wp_seq <| wp_region_list ?_
 obtain ⟨hk114, hM⟩ := wp_chk hM
 refine mkS (g := (ci .i64)) (m := (288 : Int)) (0 : Int) hS rfl rfl (by simp) Tryd.runUnderlying45 X.el3 (fun w => ⟨_, Tryd.zeroValue3 w, rfl⟩) (fun _ => rfl) rfl rfl hk114 rfl fun zs119 w A115 c116 f117 hz hV118 hS => ?_
 have hM := lt_to hz hM; clear hz
 refine st1 hS (asg rfl) rfl fun a w hS => wpList_nil <| then_n <| seq_joinJ (fun a w => ∃ (l_172 : (List Int)) (f173 : Frag), Ss 46 [] [(0, ptr b100 0), (1, ptr b107 0), (2, .slice A115 l_172.length c116)] H [f101, f103, f105, f108, f110, f112, f173] F a w ∧ (Vec 3 (ci .i64) 1 A115 l_172 c116 f173) ∧ (deflate_fixedCodes.j2 K l_172).wp kr kp) (fun J175 hJ175 => ?_) ?_
 ·refine wp_seq ?_
  refine wp_region_list <| st1 hS (mv rfl) rfl fun a w hS => st1 hS (lenV rfl Tryd.runUnderlying45) rfl fun a w hS => st1 hS (mv rfl) rfl fun a w hS => wpList_nil <| then_n <| wp_block <| s_loopJ (fun k150 a w => ∃ (l_146 : (List Int)) (f147 : Frag) (v149 : Int), Ss 46 [] [(0, ptr b100 0), (1, ptr b107 0), (2, .slice A115 l_146.length c116), (8, .int .i64 (zs119.length : Int)), (9, .int .i64 v149)] H [f101, f103, f105, f108, f110, f112, f147] F a w ∧ (Vec 3 (ci .i64) 1 A115 l_146 c116 f147) ∧ (deflate_fixedCodes.l1 K zs119 k150 l_146 v149).wp kr kp) K ?_ ?_ ?_
  ·exact ⟨zs119, f117, (0 : Int), hS.to [6, 5, 4, 3, 2, 1, 0] (by kernel_rfl) ⟨rfl, rfl, rfl, rfl, rfl, trivial⟩, hV118, hM⟩
  ·intro a w hI; obtain ⟨_, _, _, _, _, hM⟩ := hI; exact wp_fail hM
  ·intro k150 a w hI J171 hJ171
   obtain ⟨l_146, f147, v149, hS, hV148, hM⟩ := hI
   rw [deflate_fixedCodes.l1] at hM
   refine wp_seq <| wp_region_list <| st1 hS (bin rfl rfl rfl) rfl fun a w hS => wpList_nil <| then_n <| wp_seq <| s_cond hS rfl hM (fun hb151 hM => ?_) (fun hb151 hM => ?_)
   ·refine wp_skip ?_
    refine then_n <| wp_seq <| wp_block <| wp_seq <| wp_region_list <| st1 hS (mv rfl) rfl fun a w hS => st1 hS (asg rfl) rfl fun a w hS => wpList_nil <| then_n <| wp_block <| wp_seq <| wp_region_list <| st1 hS (mv rfl) rfl fun a w hS => st1 hS (bin rfl rfl rfl) rfl fun a w hS => st1 hS (mv rfl) rfl fun a w hS => g_op 2 false 18 (b := (decide (v149 < (144 : Int)))) (r := (decide (v149 ≥ (280 : Int)))) hS rfl rfl rfl rfl rfl rfl rfl (fun hb a w hS K hK => ?_) rfl fun a w hS => ?_
    ·refine st1g hS rfl rfl rfl hb (mv rfl) rfl fun a w hS => ?_
     refine st1g hS rfl rfl rfl hb (bin rfl rfl rfl) rfl fun a w hS => ?_
     exact wpList_nil (hK _ _ (hS.up 2 rfl rfl))
    refine st1x (v := Value.bool) (x0 := ((decide (v149 < (144 : Int))) || (decide (v149 ≥ (280 : Int))))) hS (asg rfl) rfl fun v152 a w hz hS => ?_
    have hM := lt_to hz hM; clear hz
    refine wpList_nil <| then_n <| s_cond hS rfl hM (fun hb153 hM => ?_) (fun hb153 hM => ?_)
    ·refine wp_region_list ?_
     refine st1 hS (mv rfl) rfl fun a w hS => st1 hS (mv rfl) rfl fun a w hS => ?_
     obtain ⟨hk154, hM⟩ := wp_chk hM
     refine st1 hS (ixV rfl rfl Tryd.runUnderlying45 Tryd.sizeOf3 (hV148.rd (i := 6) rfl) (fun _ => rfl) rfl hk154) rfl fun a w hS => stV (i := v149) (sz := 1) 6 0 ((8 : Int)) hS rfl rfl hV148 rfl Tryd.sizeOf3 (one_t3 (8 : Int)) (fun _ => rfl) hk154 rfl rfl fun zs157 w f155 hz hz158 hV156 hS => ?_
     have hM := lt_to hz hM; clear hz
     replace hS := hS.re 2 (u := .slice A115 l_146.length c116) (v := .slice A115 zs157.length c116) rfl (by rw [hz158])
     replace hS := hS.re 22 (u := .slice A115 l_146.length c116) (v := .slice A115 zs157.length c116) rfl (by rw [hz158])
     refine wpList_nil <| blk_n (blk_n (then_n ?_))
     refine wp_region_list <| st1 hS (bin rfl rfl rfl) rfl fun a w hS => st1 hS (mv rfl) rfl fun a w hS => wpList_nil <| then_n ?_
     exact hJ171 _ _ ⟨zs157, f155, (w64 (v149 + (1 : Int))), hS.to [0, 1, 2, 3, 4, 5, 6] (by kernel_rfl) ⟨rfl, rfl, rfl, rfl, rfl, trivial⟩, hV156, hM⟩
    ·refine wp_seq ?_
     refine wp_region_list <| st1 hS (mv rfl) rfl fun a w hS => st1 hS (bin rfl rfl rfl) rfl fun a w hS => st1x (v := Value.bool) (x0 := (decide (v149 < (256 : Int)))) hS (asg rfl) rfl fun v159 a w hz hS => ?_
     have hM := lt_to hz hM; clear hz
     refine wpList_nil <| then_n <| s_cond hS rfl hM (fun hb160 hM => ?_) (fun hb160 hM => ?_)
     ·refine wp_region_list ?_
      refine st1 hS (mv rfl) rfl fun a w hS => st1 hS (mv rfl) rfl fun a w hS => ?_
      obtain ⟨hk161, hM⟩ := wp_chk hM
      refine st1 hS (ixV rfl rfl Tryd.runUnderlying45 Tryd.sizeOf3 (hV148.rd (i := 6) rfl) (fun _ => rfl) rfl hk161) rfl fun a w hS => stV (i := v149) (sz := 1) 6 0 ((9 : Int)) hS rfl rfl hV148 rfl Tryd.sizeOf3 (one_t3 (9 : Int)) (fun _ => rfl) hk161 rfl rfl fun zs164 w f162 hz hz165 hV163 hS => ?_
      have hM := lt_to hz hM; clear hz
      replace hS := hS.re 2 (u := .slice A115 l_146.length c116) (v := .slice A115 zs164.length c116) rfl (by rw [hz165])
      replace hS := hS.re 28 (u := .slice A115 l_146.length c116) (v := .slice A115 zs164.length c116) rfl (by rw [hz165])
      refine wpList_nil <| blk_n (blk_n (then_n ?_))
      refine wp_region_list <| st1 hS (bin rfl rfl rfl) rfl fun a w hS => st1 hS (mv rfl) rfl fun a w hS => wpList_nil <| then_n ?_
      exact hJ171 _ _ ⟨zs164, f162, (w64 (v149 + (1 : Int))), hS.to [0, 1, 2, 3, 4, 5, 6] (by kernel_rfl) ⟨rfl, rfl, rfl, rfl, rfl, trivial⟩, hV163, hM⟩
     ·refine wp_region_list ?_
      refine st1 hS (mv rfl) rfl fun a w hS => st1 hS (mv rfl) rfl fun a w hS => ?_
      obtain ⟨hk166, hM⟩ := wp_chk hM
      refine st1 hS (ixV rfl rfl Tryd.runUnderlying45 Tryd.sizeOf3 (hV148.rd (i := 6) rfl) (fun _ => rfl) rfl hk166) rfl fun a w hS => stV (i := v149) (sz := 1) 6 0 ((7 : Int)) hS rfl rfl hV148 rfl Tryd.sizeOf3 (one_t3 (7 : Int)) (fun _ => rfl) hk166 rfl rfl fun zs169 w f167 hz hz170 hV168 hS => ?_
      have hM := lt_to hz hM; clear hz
      replace hS := hS.re 2 (u := .slice A115 l_146.length c116) (v := .slice A115 zs169.length c116) rfl (by rw [hz170])
      replace hS := hS.re 12 (u := .slice A115 l_146.length c116) (v := .slice A115 zs169.length c116) rfl (by rw [hz170])
      refine wpList_nil <| blk_n (blk_n (then_n ?_))
      refine wp_region_list <| st1 hS (bin rfl rfl rfl) rfl fun a w hS => st1 hS (mv rfl) rfl fun a w hS => wpList_nil <| then_n ?_
      exact hJ171 _ _ ⟨zs169, f167, (w64 (v149 + (1 : Int))), hS.to [0, 1, 2, 3, 4, 5, 6] (by kernel_rfl) ⟨rfl, rfl, rfl, rfl, rfl, trivial⟩, hV168, hM⟩
   ·refine wp_exit ?_
    refine then_ex (then_ex (blk_same (then_n ?_)))
    exact hJ175 _ _ ⟨l_146, f147, hS.to [0, 1, 2, 3, 4, 5, 6] (by kernel_rfl) ⟨rfl, rfl, rfl, trivial⟩, hV148, hM⟩
 ·intro a w hI
  obtain ⟨l_172, f173, hS, hV174, hM⟩ := hI
  rw [deflate_fixedCodes.j2] at hM
  refine wp_seq <| wp_region_list ?_
  obtain ⟨hk176, hM⟩ := wp_chk hM
  refine mkS (g := (ci .i64)) (m := (32 : Int)) (0 : Int) hS rfl rfl (by simp) Tryd.runUnderlying45 X.el3 (fun w => ⟨_, Tryd.zeroValue3 w, rfl⟩) (fun _ => rfl) rfl rfl hk176 rfl fun zs181 w A177 c178 f179 hz hV180 hS => ?_
  have hM := lt_to hz hM; clear hz
  refine st1 hS (asg rfl) rfl fun a w hS => wpList_nil <| then_n <| seq_joinJ (fun a w => ∃ (d206 : (List Int)) (f207 : Frag), Ss 46 [] [(0, ptr b100 0), (1, ptr b107 0), (2, .slice A115 l_172.length c116), (4, .slice A177 d206.length c178)] H [f101, f103, f105, f108, f110, f112, f173, f207] F a w ∧ (Vec 3 (ci .i64) 1 A177 d206 c178 f207) ∧ (deflate_fixedCodes.j4 K l_172 d206).wp kr kp) (fun J209 hJ209 => ?_) ?_
  ·refine wp_seq ?_
   refine wp_region_list <| st1 hS (mv rfl) rfl fun a w hS => st1 hS (lenV rfl Tryd.runUnderlying45) rfl fun a w hS => st1 hS (mv rfl) rfl fun a w hS => wpList_nil <| then_n <| wp_block <| s_loopJ (fun k198 a w => ∃ (d194 : (List Int)) (f195 : Frag) (v197 : Int), Ss 46 [] [(0, ptr b100 0), (1, ptr b107 0), (2, .slice A115 l_172.length c116), (4, .slice A177 d194.length c178), (34, .int .i64 (zs181.length : Int)), (35, .int .i64 v197)] H [f101, f103, f105, f108, f110, f112, f173, f195] F a w ∧ (Vec 3 (ci .i64) 1 A177 d194 c178 f195) ∧ (deflate_fixedCodes.l3 K l_172 zs181 k198 d194 v197).wp kr kp) K ?_ ?_ ?_
   ·exact ⟨zs181, f179, (0 : Int), hS.to [1, 2, 3, 4, 5, 6, 7, 0] (by kernel_rfl) ⟨rfl, rfl, rfl, rfl, rfl, rfl, trivial⟩, hV180, hM⟩
   ·intro a w hI; obtain ⟨_, _, _, _, _, hM⟩ := hI; exact wp_fail hM
   ·intro k198 a w hI J205 hJ205
    obtain ⟨d194, f195, v197, hS, hV196, hM⟩ := hI
    rw [deflate_fixedCodes.l3] at hM
    refine wp_seq <| wp_region_list <| st1 hS (bin rfl rfl rfl) rfl fun a w hS => wpList_nil <| then_n <| wp_seq <| s_cond hS rfl hM (fun hb199 hM => ?_) (fun hb199 hM => ?_)
    ·refine wp_skip ?_
     refine then_n <| wp_seq <| wp_block <| wp_seq <| wp_region_list <| st1 hS (mv rfl) rfl fun a w hS => st1 hS (asg rfl) rfl fun a w hS => wpList_nil <| then_n <| wp_region_list <| st1 hS (mv rfl) rfl fun a w hS => st1 hS (mv rfl) rfl fun a w hS => ?_
     obtain ⟨hk200, hM⟩ := wp_chk hM
     refine st1 hS (ixV rfl rfl Tryd.runUnderlying45 Tryd.sizeOf3 (hV196.rd (i := 7) rfl) (fun _ => rfl) rfl hk200) rfl fun a w hS => stV (i := v197) (sz := 1) 7 0 ((5 : Int)) hS rfl rfl hV196 rfl Tryd.sizeOf3 (one_t3 (5 : Int)) (fun _ => rfl) hk200 rfl rfl fun zs203 w f201 hz hz204 hV202 hS => ?_
     have hM := lt_to hz hM; clear hz
     replace hS := hS.re 4 (u := .slice A177 d194.length c178) (v := .slice A177 zs203.length c178) rfl (by rw [hz204])
     replace hS := hS.re 38 (u := .slice A177 d194.length c178) (v := .slice A177 zs203.length c178) rfl (by rw [hz204])
     refine wpList_nil <| blk_n (then_n ?_)
     refine wp_region_list <| st1 hS (bin rfl rfl rfl) rfl fun a w hS => st1 hS (mv rfl) rfl fun a w hS => wpList_nil <| then_n ?_
     exact hJ205 _ _ ⟨zs203, f201, (w64 (v197 + (1 : Int))), hS.to [0, 1, 2, 3, 4, 5, 6, 7] (by kernel_rfl) ⟨rfl, rfl, rfl, rfl, rfl, rfl, trivial⟩, hV202, hM⟩
    ·refine wp_exit ?_
     refine then_ex (then_ex (blk_same (then_n ?_)))
     exact hJ209 _ _ ⟨d194, f195, hS.to [0, 1, 2, 3, 4, 5, 6, 7] (by kernel_rfl) ⟨rfl, rfl, rfl, rfl, trivial⟩, hV196, hM⟩
  ·intro a w hI
   obtain ⟨d206, f207, hS, hV208, hM⟩ := hI
   rw [deflate_fixedCodes.j4] at hM
   refine wp_seq <| wp_region_list <| st1 hS (mv rfl) rfl fun a w hS => s_call hS rfl Tryd.call37 (deflate_coded_c hG K l_172 A115 c116 (hV174.rdF (i := 6) rfl) (hV174.cap (fun _ => rfl) rfl) (hS.st.part 0 [0, 1, 2, 3, 4, 5, 6, 7] (by kernel_rfl)) (wp_bind hM) (fun A461 c462 codes463 f464 w hM h465 hst => s_back hS.ev hst.appF rfl fun hS => ?_))
   replace hS : Ss _ _ _ H [f464, f101, f103, f105, f108, f110, f112, f173, f207] F _ _ := hS
   refine st1 hS (mv rfl) rfl fun a w hS => s_call hS rfl Tryd.call37 (deflate_coded_c hG K d206 A177 c178 (hV208.rdF (i := 8) rfl) (hV208.cap (fun _ => rfl) rfl) (hS.st.part 0 [0, 1, 2, 3, 4, 5, 6, 7, 8] (by kernel_rfl)) (wp_bind hM) (fun A466 c467 codes468 f469 w hM h470 hst => s_back hS.ev hst.appF rfl fun hS => ?_))
   replace hS : Ss _ _ _ H [f469, f464, f101, f103, f105, f108, f110, f112, f173, f207] F _ _ := hS
   refine stB 2 ([.slice A115 l_172.length c116, .slice A461 codes463.length c462]) ([.slice A115 l_172.length c116, .slice A461 codes463.length c462]) hS rfl rfl hB102 rfl rfl Tryd.sizeOf47 (by simp [Value.oneCell']) (Nat.le_of_ble_eq_true rfl) rfl fun w f471 hB472 hS => stB 5 ([.slice A177 d206.length c178, .slice A466 codes468.length c467]) ([.slice A177 d206.length c178, .slice A466 codes468.length c467]) hS rfl rfl hB109 rfl rfl Tryd.sizeOf47 (by simp [Value.oneCell']) (Nat.le_of_ble_eq_true rfl) rfl fun w f473 hB474 hS => wpList_nil <| then_n <| wp_ret ?_
   exact s_retC (vs := [.agg ⟨[.slice A115 l_172.length c116, .slice A461 codes463.length c462]⟩, .agg ⟨[.slice A177 d206.length c178, .slice A466 codes468.length c467]⟩]) hS rfl (by exact ⟨rvA 2 ([.slice A115 l_172.length c116, .slice A461 codes463.length c462]) rfl hB472 rfl rfl rfl Tryd.isAgg47 Tryd.sizeOf47, rvA 5 ([.slice A177 d206.length c178, .slice A466 codes468.length c467]) rfl hB474 rfl rfl rfl Tryd.isAgg47 Tryd.sizeOf47, trivial⟩) (hret A115 c116 l_172 f173 A461 c462 codes463 f464 A177 c178 d206 f207 A466 c467 codes468 f469 w (wp_ok hM) hV174 h465 hV208 h470 (hS.st.pick [8, 1, 9, 0] (by kernel_rfl)))

theorem bits_Writer_Put_deflate_writer_c {H : Imm} {F : List Frag} {w : World} {R : Ending → World → Prop} {kr : (Int × Int × (List Int)) → Prop} {kp : Value → Prop} (hG : Gl H) (K : Nat) (w_519 : T_deflate_writer) (v543 : Int) (n_544 : Int) (b520 : Nat) (f521 : Frag) (A523 : Option Addr) (c524 : Nat) (f525 : Frag) (A527 : Option Addr) (c528 : Nat) (f529 : Frag) (A531 : Option Addr) (c532 : Nat) (f533 : Frag) (A535 : Option Addr) (c536 : Nat) (f537 : Frag) (A539 : Option Addr) (c540 : Nat) (f541 : Frag) (hB522 : Blk f521 b520 ([.int .i64 w_519.Writer_.place_.at_, .slice A523 w_519.Writer_.bytes_.length c524, .slice A527 w_519.literals_.lengths_.length c528, .slice A531 w_519.literals_.codes_.length c532, .slice A535 w_519.distances_.lengths_.length c536, .slice A539 w_519.distances_.codes_.length c540]) 49) (hV526 : Vec 5 (ci .u8) 1 A523 w_519.Writer_.bytes_ c524 f525) (hV530 : Vec 3 (ci .i64) 1 A527 w_519.literals_.lengths_ c528 f529) (hV534 : Vec 3 (ci .i64) 1 A531 w_519.literals_.codes_ c532 f533) (hV538 : Vec 3 (ci .i64) 1 A535 w_519.distances_.lengths_ c536 f537) (hV542 : Vec 3 (ci .i64) 1 A539 w_519.distances_.codes_ c540 f541)
    (hS : St w H [f521, f525, f529, f533, f537, f541] F) (hm : (bits_Writer_Put_deflate_writer.m K w_519 v543 n_544).wp kr kp)
    (hret : ∀ (x650 : Int) (at_651 : Int) (A652 : Option Addr) (c653 : Nat) (bytes654 : (List Int)) (f655 : Frag) (f657 : Frag) (w : World), kr (x650, at_651, bytes654) → (Vec 5 (ci .u8) 1 A652 bytes654 c653 f655) → (Blk f657 b520 ([.int .i64 at_651, .slice A652 bytes654.length c653, .slice A527 w_519.literals_.lengths_.length c528, .slice A531 w_519.literals_.codes_.length c532, .slice A535 w_519.distances_.lengths_.length c536, .slice A539 w_519.distances_.codes_.length c540]) 49) → St w H [f657, f655, f529, f533, f537, f541] F → R (.returned (.int .i64 x650)) w) :
    Calls Tryd.prog 23 ⟨[ptr b520 0, .int .u32 v543, .int .i64 n_544]⟩ w R := by
 refine enter Tryd.func23 rfl Tryd.ntmps23 rfl hS fun a w hS => ?_
 have hM := hm; clear hm
 rw [bits_Writer_Put_deflate_writer.m] at hM
 refine wp_seq <| wp_region_list <| st1 hS (asg rfl) rfl fun a w hS => wpList_nil <| then_n <| wp_seq <| wp_seq <| wp_region_list <| st1 hS (mv rfl) rfl fun a w hS => st1 hS (eqNil rfl rfl Tryd.runUnderlying103) rfl fun a w hS => st1 hS (mv rfl) rfl fun a w hS => st1g hS rfl rfl rfl rfl (mv rfl) rfl fun a w hS => st1g hS rfl rfl rfl rfl (bin rfl rfl rfl) rfl fun a w hS => st1 hS (pk rfl rfl rfl) rfl fun a w hS => st1 hS (mv rfl) rfl fun a w hS => g_op 2 false 14 (b := (decide (n_544 < (0 : Int)))) (r := (decide (n_544 > (32 : Int)))) hS rfl rfl rfl rfl rfl rfl rfl (fun hb a w hS K hK => ?_) rfl fun a w hS => ?_
 ·refine st1g hS rfl rfl rfl hb (mv rfl) rfl fun a w hS => ?_
  refine st1g hS rfl rfl rfl hb (bin rfl rfl rfl) rfl fun a w hS => ?_
  exact wpList_nil (hK _ _ (hS.up 2 rfl rfl))
 refine st1 hS (mv rfl) rfl fun a w hS => ?_
 obtain ⟨hk547, hM⟩ := wp_chk hM
 refine g_op 5 false 18 (b := ((decide (n_544 < (0 : Int))) || (decide (n_544 > (32 : Int))))) (r := (decide ((ishr .u64 (wr .u64 v543) n_544) > (0 : Int)))) hS rfl rfl rfl rfl rfl rfl rfl (fun hb a w hS K hK => ?_) rfl fun a w hS => ?_
 ·refine st1g hS rfl rfl rfl hb (mv rfl) rfl fun a w hS => ?_
  refine st1g hS rfl rfl rfl hb (cvi rfl Tryd.runUnderlying53 Tryd.runUnderlying104) rfl fun a w hS => st1g hS rfl rfl rfl hb (mv rfl) rfl fun a w hS => ?_
  have hk546 := imp_of hk547 hb
  refine st1g hS rfl rfl rfl hb (shr rfl rfl hk546) rfl fun a w hS => st1g hS rfl rfl rfl hb (bin rfl rfl rfl) rfl fun a w hS => ?_
  exact wpList_nil (hK _ _ (hS.up 5 rfl rfl))
 refine wpList_nil <| then_n <| s_cond hS rfl hM (fun hb548 hM => ?_) (fun hb548 hM => ?_)
 ·refine wp_seq ?_
  refine wp_region_list <| st1 hS (asg rfl) rfl fun a w hS => wpList_nil <| then_n <| wp_ret <| then_ret ?_
  exact s_ret (rs := [6]) hS rfl rfl (hret (1 : Int) w_519.Writer_.place_.at_ A523 c524 w_519.Writer_.bytes_ f525 f521 w (wp_ok hM) hV526 hB522 (hS.st.pick [0, 1, 2, 3, 4, 5] (by kernel_rfl)))
 ·refine wp_skip ?_
  refine then_n <| wp_seq <| wp_block <| s_loopJ (fun k610 a w => ∃ (at_600 : Int) (A601 : Option Addr) (c602 : Nat) (bytes603 : (List Int)) (f604 : Frag) (f606 : Frag) (v608 : Int) (n_609 : Int), Ss 95 [] [(0, ptr b520 0), (1, .int .u32 v608), (2, .int .i64 n_609)] H [f606, f604, f529, f533, f537, f541] F a w ∧ (Vec 5 (ci .u8) 1 A601 bytes603 c602 f604) ∧ (Blk f606 b520 ([.int .i64 at_600, .slice A601 bytes603.length c602, .slice A527 w_519.literals_.lengths_.length c528, .slice A531 w_519.literals_.codes_.length c532, .slice A535 w_519.distances_.lengths_.length c536, .slice A539 w_519.distances_.codes_.length c540]) 49) ∧ (bits_Writer_Put_deflate_writer.l1 K k610 at_600 bytes603 v608 n_609).wp kr kp) K ?_ ?_ ?_
  ·exact ⟨w_519.Writer_.place_.at_, A523, c524, w_519.Writer_.bytes_, f525, f521, v543, n_544, hS.to [0, 1, 2, 3, 4, 5] (by kernel_rfl) ⟨rfl, rfl, rfl, trivial⟩, hV526, hB522, hM⟩
  ·intro a w hI; obtain ⟨_, _, _, _, _, _, _, _, _, _, _, hM⟩ := hI; exact wp_fail hM
  ·intro k610 a w hI J649 hJ649
   obtain ⟨at_600, A601, c602, bytes603, f604, f606, v608, n_609, hS, hV605, hB607, hM⟩ := hI
   rw [bits_Writer_Put_deflate_writer.l1] at hM
   refine wp_seq <| wp_seq <| wp_region_list <| st1 hS (mv rfl) rfl fun a w hS => st1 hS (bin rfl rfl rfl) rfl fun a w hS => wpList_nil <| then_n <| s_cond hS rfl hM (fun hb611 hM => ?_) (fun hb611 hM => ?_)
   ·refine wp_skip ?_
    refine then_n <| wp_block <| seq_joinJ (fun a w => ∃ (A625 : Option Addr) (c626 : Nat) (bytes627 : (List Int)) (f628 : Frag) (f630 : Frag), Ss 95 [] [(0, ptr b520 0), (1, .int .u32 v608), (2, .int .i64 n_609)] H [f630, f628, f529, f533, f537, f541] F a w ∧ (Vec 5 (ci .u8) 1 A625 bytes627 c626 f628) ∧ (Blk f630 b520 ([.int .i64 at_600, .slice A625 bytes627.length c626, .slice A527 w_519.literals_.lengths_.length c528, .slice A531 w_519.literals_.codes_.length c532, .slice A535 w_519.distances_.lengths_.length c536, .slice A539 w_519.distances_.codes_.length c540]) 49) ∧ (bits_Writer_Put_deflate_writer.j2 K (bits_Writer_Put_deflate_writer.l1 K k610) at_600 v608 n_609 bytes627).wp kr kp) (fun J632 hJ632 => ?_) ?_
    ·refine wp_seq ?_
     refine wp_region_list <| st1 hS (mv rfl) rfl fun a w hS => st1 hS (nck rfl) rfl fun a w hS => st1 hS (fad rfl Tryd.runUnderlying44 rfl Tryd.sizeOf42 rfl) rfl fun a w hS => st1 hS (fad rfl Tryd.runUnderlying42 rfl Tryd.sizeOf3 rfl) rfl fun a w hS => st1 hS (ldb 0 rfl hB607 rfl rfl Tryd.isAgg3) rfl fun a w hS => st1 hS (bin rfl rfl rfl) rfl fun a w hS => st1 hS (bin rfl rfl rfl) rfl fun a w hS => wpList_nil <| then_n <| s_cond hS rfl hM (fun hb612 hM => ?_) (fun hb612 hM => ?_)
     ·refine wp_region_list ?_
      refine st1 hS (mv rfl) rfl fun a w hS => st1 hS (mv rfl) rfl fun a w hS => st1 hS (nck rfl) rfl fun a w hS => st1 hS (fad rfl Tryd.runUnderlying44 rfl Tryd.sizeOf38 rfl) rfl fun a w hS => st1 hS (ldb 0 rfl hB607 rfl rfl Tryd.isAgg38) rfl fun a w hS => bsl (g := (ci .u8)) ([(0 : Int)] : List Int) [.int .u8 (0 : Int)] hS Tryd.runUnderlying38 Tryd.sizeOf5 X.el5 rfl rfl rfl (by simp [Value.cells]) rfl rfl rfl rfl rfl fun w A613 c614 f615 hV616 hS => ?_
      obtain ⟨hk617, hM⟩ := wp_chk hM
      refine apV (ys := ([(0 : Int)] : List Int)) 2 hS rfl rfl hV605 rfl (hV616.rd (i := 0) rfl) Tryd.runUnderlying38 Tryd.runUnderlying38 X.el5 (fun _ => rfl) rfl one_t5 hk617 rfl fun zs622 w A618 c619 f620 hz hV621 hS => ?_
      have hM := lt_to hz hM; clear hz
      refine st1 hS (nck rfl) rfl fun a w hS => st1 hS (fad rfl Tryd.runUnderlying44 rfl Tryd.sizeOf38 rfl) rfl fun a w hS => sto 1 ([.int .i64 at_600, .slice A618 zs622.length c619, .slice A527 w_519.literals_.lengths_.length c528, .slice A531 w_519.literals_.codes_.length c532, .slice A535 w_519.distances_.lengths_.length c536, .slice A539 w_519.distances_.codes_.length c540]) hS rfl rfl hB607 rfl rfl rfl rfl Tryd.sizeOf38 fun w f623 hB624 hS => wpList_nil <| then_n ?_
      exact hJ632 _ _ ⟨A618, c619, zs622, f620, f623, hS.to [1, 2, 3, 4, 5, 6] (by kernel_rfl) ⟨rfl, rfl, rfl, trivial⟩, hV621, hB624, hM⟩
     ·refine wp_skip ?_
      refine then_n ?_
      exact hJ632 _ _ ⟨A601, c602, bytes603, f604, f606, hS.to [0, 1, 2, 3, 4, 5] (by kernel_rfl) ⟨rfl, rfl, rfl, trivial⟩, hV605, hB607, hM⟩
    ·intro a w hI
     obtain ⟨A625, c626, bytes627, f628, f630, hS, hV629, hB631, hM⟩ := hI
     rw [bits_Writer_Put_deflate_writer.j2] at hM
     refine wp_seq <| wp_region_list <| st1 hS (mv rfl) rfl fun a w hS => st1 hS (nck rfl) rfl fun a w hS => st1 hS (fad rfl Tryd.runUnderlying44 rfl Tryd.sizeOf42 rfl) rfl fun a w hS => st1 hS (fad rfl Tryd.runUnderlying42 rfl Tryd.sizeOf3 rfl) rfl fun a w hS => st1 hS (ldb 0 rfl hB631 rfl rfl Tryd.isAgg3) rfl fun a w hS => st1 hS (bin rfl rfl rfl) rfl fun a w hS => st1 hS (bin rfl rfl rfl) rfl fun a w hS => st1 hS (mv rfl) rfl fun a w hS => st1 hS (minI rfl rfl) rfl fun a w hS => st1x (v := Value.int .i64) (x0 := (if n_609 < (w64 ((8 : Int) - (iand .i64 at_600 (7 : Int)))) then n_609 else (w64 ((8 : Int) - (iand .i64 at_600 (7 : Int)))))) hS (asg rfl) rfl fun room633 a w hz hS => ?_
     have hM := lt_to hz hM; clear hz
     refine wpList_nil <| then_n <| wp_seq ?_
     obtain ⟨hk635, hM⟩ := wp_chk hM
     obtain ⟨hk637, hM⟩ := wp_chk hM
     obtain ⟨hk639, hM⟩ := wp_chk hM
     refine draw_begin (vals := [some (ptr b520 0), some (ptr b520 0), some (ptr b520 1), some (.slice A625 bytes627.length c626), some (ptr b520 0), some (ptr b520 0), some (ptr b520 0), some (ptr b520 0), some (.int .i64 at_600), some (.int .i64 (iquo .i64 at_600 (8 : Int))), some (slp A625 (Int.toNat (iquo .i64 at_600 (8 : Int)) * 1)), some (.int .u8 (rd bytes627 (iquo .i64 at_600 (8 : Int)))), some (.int .u32 v608), some (.int .i64 room633), some (.int .u32 (ishl .u32 (1 : Int) room633)), some (.int .u32 (wr .u32 ((ishl .u32 (1 : Int) room633) - (1 : Int)))), some (.int .u32 (iand .u32 v608 (wr .u32 ((ishl .u32 (1 : Int) room633) - (1 : Int))))), some (.int .u8 (wr .u8 (iand .u32 v608 (wr .u32 ((ishl .u32 (1 : Int) room633) - (1 : Int)))))), some (ptr b520 0), some (ptr b520 0), some (ptr b520 0), some (ptr b520 0), some (.int .i64 at_600), some (.int .i64 (iand .i64 at_600 (7 : Int))), some (.int .u8 (ishl .u8 (wr .u8 (iand .u32 v608 (wr .u32 ((ishl .u32 (1 : Int) room633) - (1 : Int))))) (iand .i64 at_600 (7 : Int)))), some (.int .u8 (ior .u8 (rd bytes627 (iquo .i64 at_600 (8 : Int))) (ishl .u8 (wr .u8 (iand .u32 v608 (wr .u32 ((ishl .u32 (1 : Int) room633) - (1 : Int))))) (iand .i64 at_600 (7 : Int))))), some (slp A625 (Int.toNat (iquo .i64 at_600 (8 : Int)) * 1)), none]) hS mixed rfl ?_
     intro l w ho hcl hA hst
     refine phq hA hst ho hcl navail nmust 27 [0, 1, 2, 3, 4, 5, 6, 7, 8, 9, 10, 11, 12, 13, 14, 15, 16, 17, 18, 19, 20, 21, 22, 23, 24, 25, 26] rfl rfl rfl rfl rfl (by exact ⟨nR rfl rfl rfl rfl rfl (by exact ovE (mv rfl) rfl), nR rfl rfl rfl rfl rfl (by exact ovE (nck rfl) rfl), nR rfl rfl rfl rfl rfl (by exact ovE (fad rfl Tryd.runUnderlying44 rfl Tryd.sizeOf38 rfl) rfl), nR rfl rfl rfl rfl rfl (by exact ovE (ldb 0 rfl hB631 rfl rfl Tryd.isAgg38) rfl), nR rfl rfl rfl rfl rfl (by exact ovE (mv rfl) rfl), nR rfl rfl rfl rfl rfl (by exact ovE (nck rfl) rfl), nR rfl rfl rfl rfl rfl (by exact ovE (fad rfl Tryd.runUnderlying44 rfl Tryd.sizeOf42 rfl) rfl), nR rfl rfl rfl rfl rfl (by exact ovE (fad rfl Tryd.runUnderlying42 rfl Tryd.sizeOf3 rfl) rfl), nR rfl rfl rfl rfl rfl (by exact ovE (ldb 0 rfl hB631 rfl rfl Tryd.isAgg3) rfl), nR rfl rfl rfl rfl rfl (by exact ovE (quo rfl rfl rfl) rfl), nR rfl rfl rfl rfl rfl (by exact ovE (ixV rfl rfl Tryd.runUnderlying38 Tryd.sizeOf5 (hV629.rd (i := 1) rfl) (fun _ => rfl) rfl hk635) rfl), nR rfl rfl rfl rfl rfl (by exact ovE (ldV0 rfl (hV629.rd (i := 1) rfl) (fun _ => rfl) hk635 rfl Tryd.isAgg5) rfl), nR rfl rfl rfl rfl rfl (by exact ovE (mv rfl) rfl), nR rfl rfl rfl rfl rfl (by exact ovE (mv rfl) rfl), nR rfl rfl rfl rfl rfl (by exact ovE (shl rfl rfl hk637) rfl), nR rfl rfl rfl rfl rfl (by exact ovE (bin rfl rfl rfl) rfl), nR rfl rfl rfl rfl rfl (by exact ovE (bin rfl rfl rfl) rfl), nR rfl rfl rfl rfl rfl (by exact ovE (cvi rfl Tryd.runUnderlying53 Tryd.runUnderlying5) rfl), nR rfl rfl rfl rfl rfl (by exact ovE (mv rfl) rfl), nR rfl rfl rfl rfl rfl (by exact ovE (nck rfl) rfl), nR rfl rfl rfl rfl rfl (by exact ovE (fad rfl Tryd.runUnderlying44 rfl Tryd.sizeOf42 rfl) rfl), nR rfl rfl rfl rfl rfl (by exact ovE (fad rfl Tryd.runUnderlying42 rfl Tryd.sizeOf3 rfl) rfl), nR rfl rfl rfl rfl rfl (by exact ovE (ldb 0 rfl hB631 rfl rfl Tryd.isAgg3) rfl), nR rfl rfl rfl rfl rfl (by exact ovE (bin rfl rfl rfl) rfl), nR rfl rfl rfl rfl rfl (by exact ovE (shl rfl rfl hk639) rfl), nR rfl rfl rfl rfl rfl (by exact ovE (bin rfl rfl rfl) rfl), nR rfl rfl rfl rfl rfl (by exact ovE (ixV rfl rfl Tryd.runUnderlying38 Tryd.sizeOf5 (hV629.rd (i := 1) rfl) (fun _ => rfl) rfl hk635) rfl), trivial⟩) fun D l a w ho hcl hav hpre hm hE hk hA hst => ?_
     have hS := (Ss.mk hE hst).env2 (e' := [(77, .int .u8 (ior .u8 (rd bytes627 (iquo .i64 at_600 (8 : Int))) (ishl .u8 (wr .u8 (iand .u32 v608 (wr .u32 ((ishl .u32 (1 : Int) room633) - (1 : Int))))) (iand .i64 at_600 (7 : Int))))), (78, slp A625 (Int.toNat (iquo .i64 at_600 (8 : Int)) * 1))]) ⟨rfl, rfl, trivial⟩
     refine op_of_nth rfl <| stV (i := (iquo .i64 at_600 (8 : Int))) (sz := 1) 1 0 ((ior .u8 (rd bytes627 (iquo .i64 at_600 (8 : Int))) (ishl .u8 (wr .u8 (iand .u32 v608 (wr .u32 ((ishl .u32 (1 : Int) room633) - (1 : Int))))) (iand .i64 at_600 (7 : Int))))) hS rfl rfl hV629 rfl Tryd.sizeOf5 (one_t5 (ior .u8 (rd bytes627 (iquo .i64 at_600 (8 : Int))) (ishl .u8 (wr .u8 (iand .u32 v608 (wr .u32 ((ishl .u32 (1 : Int) room633) - (1 : Int))))) (iand .i64 at_600 (7 : Int))))) (fun _ => rfl) hk635 rfl rfl fun zs642 w f640 hz hz643 hV641 hS => ?_
     have hM := lt_to hz hM; clear hz
     have hB644 : Blk f630 b520 ([.int .i64 at_600, .slice A625 zs642.length c626, .slice A527 w_519.literals_.lengths_.length c528, .slice A531 w_519.literals_.codes_.length c532, .slice A535 w_519.distances_.lengths_.length c536, .slice A539 w_519.distances_.codes_.length c540]) 49 := by rw [hz643]; exact hB631
     refine wpList_nil (then_n ?_)
     replace hst := hS.st
     obtain ⟨hcl, hmust, hav2, hA⟩ := dnN (vals' := [some (ptr b520 0), some (ptr b520 0), some (ptr b520 1), some (.slice A625 bytes627.length c626), some (ptr b520 0), some (ptr b520 0), some (ptr b520 0), some (ptr b520 0), some (.int .i64 at_600), some (.int .i64 (iquo .i64 at_600 (8 : Int))), some (slp A625 (Int.toNat (iquo .i64 at_600 (8 : Int)) * 1)), some (.int .u8 (rd bytes627 (iquo .i64 at_600 (8 : Int)))), some (.int .u32 v608), some (.int .i64 room633), some (.int .u32 (ishl .u32 (1 : Int) room633)), some (.int .u32 (wr .u32 ((ishl .u32 (1 : Int) room633) - (1 : Int)))), some (.int .u32 (iand .u32 v608 (wr .u32 ((ishl .u32 (1 : Int) room633) - (1 : Int))))), some (.int .u8 (wr .u8 (iand .u32 v608 (wr .u32 ((ishl .u32 (1 : Int) room633) - (1 : Int)))))), some (ptr b520 0), some (ptr b520 0), some (ptr b520 0), some (ptr b520 0), some (.int .i64 at_600), some (.int .i64 (iand .i64 at_600 (7 : Int))), some (.int .u8 (ishl .u8 (wr .u8 (iand .u32 v608 (wr .u32 ((ishl .u32 (1 : Int) room633) - (1 : Int))))) (iand .i64 at_600 (7 : Int)))), some (.int .u8 (ior .u8 (rd bytes627 (iquo .i64 at_600 (8 : Int))) (ishl .u8 (wr .u8 (iand .u32 v608 (wr .u32 ((ishl .u32 (1 : Int) room633) - (1 : Int))))) (iand .i64 at_600 (7 : Int))))), some (slp A625 (Int.toNat (iquo .i64 at_600 (8 : Int)) * 1)), some undef]) 27 [(0, 27), (1, 27), (2, 27), (3, 27), (4, 27), (5, 27), (6, 27), (7, 27), (8, 27), (9, 27), (10, 27), (11, 27), (12, 27), (13, 27), (14, 27), (15, 27), (16, 27), (17, 27), (18, 27), (19, 27), (20, 27), (21, 27), (22, 27), (23, 27), (24, 27), (25, 27), (26, 27)] hA hcl hav hm hpre rfl rfl rfl rfl rfl
     clear hm hav
     refine phqE hA hst ho hcl hmust [] rfl rfl rfl trivial fun a w hS => ?_
     replace hS := hS.env2 (e' := [(0, ptr b520 0), (1, .int .u32 v608), (2, .int .i64 n_609), (7, .int .i64 room633)]) ⟨rfl, rfl, rfl, rfl, trivial⟩
     refine then_n <| wp_seq <| wp_region_list <| st1 hS (mv rfl) rfl fun a w hS => st1 hS (mv rfl) rfl fun a w hS => st1 hS (shr rfl rfl hk637) rfl fun a w hS => st1x (v := Value.int .u32) (x0 := (ishr .u32 v608 room633)) hS (asg rfl) rfl fun v645 a w hz hS => ?_
     have hM := lt_to hz hM; clear hz
     refine wpList_nil <| then_n <| wp_seq <| wp_region_list <| st1 hS (mv rfl) rfl fun a w hS => st1 hS (nck rfl) rfl fun a w hS => st1 hS (fad rfl Tryd.runUnderlying44 rfl Tryd.sizeOf42 rfl) rfl fun a w hS => st1 hS (fad rfl Tryd.runUnderlying42 rfl Tryd.sizeOf3 rfl) rfl fun a w hS => st1 hS (ldb 0 rfl hB644 rfl rfl Tryd.isAgg3) rfl fun a w hS => st1 hS (mv rfl) rfl fun a w hS => st1 hS (bin rfl rfl rfl) rfl fun a w hS => st1 hS (nck rfl) rfl fun a w hS => st1 hS (fad rfl Tryd.runUnderlying44 rfl Tryd.sizeOf42 rfl) rfl fun a w hS => st1 hS (fad rfl Tryd.runUnderlying42 rfl Tryd.sizeOf3 rfl) rfl fun a w hS => sto 0 ([.int .i64 (w64 (at_600 + room633)), .slice A625 zs642.length c626, .slice A527 w_519.literals_.lengths_.length c528, .slice A531 w_519.literals_.codes_.length c532, .slice A535 w_519.distances_.lengths_.length c536, .slice A539 w_519.distances_.codes_.length c540]) hS rfl rfl hB644 rfl rfl rfl rfl Tryd.sizeOf3 fun w f646 hB647 hS => wpList_nil <| then_n <| wp_region_list <| st1 hS (mv rfl) rfl fun a w hS => st1 hS (mv rfl) rfl fun a w hS => st1 hS (bin rfl rfl rfl) rfl fun a w hS => st1x (v := Value.int .i64) (x0 := (w64 (n_609 - room633))) hS (asg rfl) rfl fun n_648 a w hz hS => ?_
     have hM := lt_to hz hM; clear hz
     refine wpList_nil <| blk_n (then_n ?_)
     exact hJ649 _ _ ⟨(w64 (at_600 + room633)), A625, c626, zs642, f640, f646, v645, n_648, hS.to [0, 1, 2, 3, 4, 5] (by kernel_rfl) ⟨rfl, rfl, rfl, trivial⟩, hV641, hB647, hM⟩
   ·refine wp_exit ?_
    refine then_ex (then_ex (blk_same (then_n ?_)))
    refine wp_seq <| wp_region_list <| st1 hS (asg rfl) rfl fun a w hS => wpList_nil <| then_n <| wp_ret ?_
    exact s_ret (rs := [6]) hS rfl rfl (hret (0 : Int) at_600 A601 c602 bytes603 f604 f606 w (wp_ok hM) hV605 hB607 (hS.st.pick [0, 1, 2, 3, 4, 5] (by kernel_rfl)))

theorem deflate_writer_symbol_1279_c {H : Imm} {F : List Frag} {w : World} {R : Ending → World → Prop} {kr : (Int × (List Int)) → Prop} {kp : Value → Prop} (hG : Gl H) (K : Nat) (w_707 : T_deflate_writer) (c_731 : T_deflate_code) (s732 : Int) (b708 : Nat) (f709 : Frag) (A711 : Option Addr) (c712 : Nat) (f713 : Frag) (A715 : Option Addr) (c716 : Nat) (f717 : Frag) (A719 : Option Addr) (c720 : Nat) (f721 : Frag) (A723 : Option Addr) (c724 : Nat) (f725 : Frag) (A727 : Option Addr) (c728 : Nat) (f729 : Frag) (hB710 : Blk f709 b708 ([.int .i64 w_707.Writer_.place_.at_, .slice A711 w_707.Writer_.bytes_.length c712, .slice A715 w_707.literals_.lengths_.length c716, .slice A719 w_707.literals_.codes_.length c720, .slice A723 w_707.distances_.lengths_.length c724, .slice A727 w_707.distances_.codes_.length c728]) 49) (hV714 : Vec 5 (ci .u8) 1 A711 w_707.Writer_.bytes_ c712 f713) (hV718 : Vec 3 (ci .i64) 1 A715 w_707.literals_.lengths_ c716 f717) (hV722 : Vec 3 (ci .i64) 1 A719 w_707.literals_.codes_ c720 f721) (hV726 : Vec 3 (ci .i64) 1 A723 w_707.distances_.lengths_ c724 f725) (hV730 : Vec 3 (ci .i64) 1 A727 w_707.distances_.codes_ c728 f729)
    (hS : St w H [f709, f713, f717, f721, f725, f729] F) (hm : (deflate_writer_symbol_1279.m K w_707 c_731 s732).wp kr kp)
    (hret : ∀ (at_790 : Int) (A791 : Option Addr) (c792 : Nat) (bytes793 : (List Int)) (f794 : Frag) (f796 : Frag) (w : World), kr (at_790, bytes793) → (Vec 5 (ci .u8) 1 A791 bytes793 c792 f794) → (Blk f796 b708 ([.int .i64 at_790, .slice A791 bytes793.length c792, .slice A715 w_707.literals_.lengths_.length c716, .slice A719 w_707.literals_.codes_.length c720, .slice A723 w_707.distances_.lengths_.length c724, .slice A727 w_707.distances_.codes_.length c728]) 49) → St w H [f796, f794, f717, f721, f725, f729] F → R (.returned (.tuple ⟨[]⟩)) w) :
    Calls Tryd.prog 41 ⟨[ptr b708 0, .agg ⟨[.slice A715 w_707.literals_.lengths_.length c716, .slice A719 w_707.literals_.codes_.length c720]⟩, .int .i64 s732]⟩ w R := by
 refine enter Tryd.func41 rfl Tryd.ntmps41 rfl hS fun a w hS => ?_
 have hM := hm; clear hm
 rw [deflate_writer_symbol_1279.m] at hM
 refine wp_seq <| wp_region_list <| bx ([.slice A715 w_707.literals_.lengths_.length c716, .slice A719 w_707.literals_.codes_.length c720]) hS rfl rfl rfl fun w b733 f734 hB735 hS => wpList_nil <| then_n <| wp_seq <| wp_region_list <| st1 hS (fad rfl Tryd.runUnderlying47 rfl Tryd.sizeOf45 rfl) rfl fun a w hS => st1 hS (ldb 0 rfl hB735 rfl rfl Tryd.isAgg45) rfl fun a w hS => st1 hS (mv rfl) rfl fun a w hS => ?_
 obtain ⟨hk736, hM⟩ := wp_chk hM
 refine st1 hS (ixV rfl rfl Tryd.runUnderlying45 Tryd.sizeOf3 (hV718.rd (i := 3) rfl) (fun _ => rfl) rfl hk736) rfl fun a w hS => st1 hS (ldV0 rfl (hV718.rd (i := 3) rfl) (fun _ => rfl) hk736 rfl Tryd.isAgg3) rfl fun a w hS => st1 hS (bin rfl rfl rfl) rfl fun a w hS => st1x (v := Value.int .i64) (x0 := (w64 ((rd w_707.literals_.lengths_ s732) - (1 : Int)))) hS (asg rfl) rfl fun i737 a w hz hS => ?_
 have hM := lt_to hz hM; clear hz
 refine wpList_nil <| then_n <| wp_block <| s_loopJ (fun k773 a w => ∃ (at_764 : Int) (A765 : Option Addr) (c766 : Nat) (bytes767 : (List Int)) (f768 : Frag) (f770 : Frag) (i772 : Int), Ss 30 [] [(0, ptr b708 0), (2, .int .i64 s732), (4, ptr b733 0), (6, .int .i64 i772)] H [f770, f768, f717, f721, f725, f729, f734] F a w ∧ (Vec 5 (ci .u8) 1 A765 bytes767 c766 f768) ∧ (Blk f770 b708 ([.int .i64 at_764, .slice A765 bytes767.length c766, .slice A715 w_707.literals_.lengths_.length c716, .slice A719 w_707.literals_.codes_.length c720, .slice A723 w_707.distances_.lengths_.length c724, .slice A727 w_707.distances_.codes_.length c728]) 49) ∧ (deflate_writer_symbol_1279.l1 K w_707 s732 k773 at_764 bytes767 i772).wp kr kp) K ?_ ?_ ?_
 ·exact ⟨w_707.Writer_.place_.at_, A711, c712, w_707.Writer_.bytes_, f713, f709, i737, hS.to [1, 2, 3, 4, 5, 6, 0] (by kernel_rfl) ⟨rfl, rfl, rfl, rfl, trivial⟩, hV714, hB710, hM⟩
 ·intro a w hI; obtain ⟨_, _, _, _, _, _, _, _, _, _, hM⟩ := hI; exact wp_fail hM
 ·intro k773 a w hI J789 hJ789
  obtain ⟨at_764, A765, c766, bytes767, f768, f770, i772, hS, hV769, hB771, hM⟩ := hI
  rw [deflate_writer_symbol_1279.l1] at hM
  refine wp_seq <| wp_seq <| wp_region_list <| st1 hS (mv rfl) rfl fun a w hS => st1 hS (bin rfl rfl rfl) rfl fun a w hS => wpList_nil <| then_n <| s_cond hS rfl hM (fun hb774 hM => ?_) (fun hb774 hM => ?_)
  ·refine wp_skip ?_
   refine then_n <| wp_seq <| wp_block ?_
   obtain ⟨hk776, hM⟩ := wp_chk hM
   obtain ⟨hk778, hM⟩ := wp_chk hM
   refine draw_begin (vals := [some (ptr b708 0), some (ptr b708 0), some (ptr b708 0), some (ptr b733 1), some (.slice A719 w_707.literals_.codes_.length c720), some (.int .i64 s732), some (slp A719 (Int.toNat s732 * 1)), some (.int .i64 (rd w_707.literals_.codes_ s732)), some (.int .i64 i772), some (.int .i64 (ishr .i64 (rd w_707.literals_.codes_ s732) i772)), some (.int .i64 (iand .i64 (ishr .i64 (rd w_707.literals_.codes_ s732) i772) (1 : Int))), some (.int .u32 (wr .u32 (iand .i64 (ishr .i64 (rd w_707.literals_.codes_ s732) i772) (1 : Int)))), none]) hS mixed rfl ?_
   intro l w ho hcl hA hst
   refine phq hA hst ho hcl navail nmust 12 [0, 1, 2, 3, 4, 5, 6, 7, 8, 9, 10, 11] rfl rfl rfl rfl rfl (by exact ⟨nR rfl rfl rfl rfl rfl (by exact ovE (mv rfl) rfl), nR rfl rfl rfl rfl rfl (by exact ovE (nck rfl) rfl), nR rfl rfl rfl rfl rfl (by exact ovE (fad rfl Tryd.runUnderlying49 rfl Tryd.sizeOf44 rfl) rfl), nR rfl rfl rfl rfl rfl (by exact ovE (fad rfl Tryd.runUnderlying47 rfl Tryd.sizeOf45 rfl) rfl), nR rfl rfl rfl rfl rfl (by exact ovE (ldb 6 rfl hB735 rfl rfl Tryd.isAgg45) rfl), nR rfl rfl rfl rfl rfl (by exact ovE (mv rfl) rfl), nR rfl rfl rfl rfl rfl (by exact ovE (ixV rfl rfl Tryd.runUnderlying45 Tryd.sizeOf3 (hV722.rd (i := 3) rfl) (fun _ => rfl) rfl hk776) rfl), nR rfl rfl rfl rfl rfl (by exact ovE (ldV0 rfl (hV722.rd (i := 3) rfl) (fun _ => rfl) hk776 rfl Tryd.isAgg3) rfl), nR rfl rfl rfl rfl rfl (by exact ovE (mv rfl) rfl), nR rfl rfl rfl rfl rfl (by exact ovE (shr rfl rfl hk778) rfl), nR rfl rfl rfl rfl rfl (by exact ovE (bin rfl rfl rfl) rfl), nR rfl rfl rfl rfl rfl (by exact ovE (cvi rfl Tryd.runUnderlying3 Tryd.runUnderlying53) rfl), trivial⟩) fun D l a w ho hcl hav hpre hm hE hk hA hst => ?_
   have hS := (Ss.mk hE hst).env2 (e' := [(19, ptr b708 0), (28, .int .u32 (wr .u32 (iand .i64 (ishr .i64 (rd w_707.literals_.codes_ s732) i772) (1 : Int))))]) ⟨rfl, rfl, trivial⟩
   refine op_of_nth rfl <| s_call hS rfl Tryd.call23 (bits_Writer_Put_deflate_writer_c hG K (T_deflate_writer.mk (T_bits_Writer.mk (T_bits_place.mk at_764) bytes767) w_707.literals_ w_707.distances_) (wr .u32 (iand .i64 (ishr .i64 (rd w_707.literals_.codes_ s732) i772) (1 : Int))) (1 : Int) b708 f770 A765 c766 f768 A715 c716 f717 A719 c720 f721 A723 c724 f725 A727 c728 f729 hB771 hV769 hV718 hV722 hV726 hV730 (hS.st.part 6 [0, 1, 2, 3, 4, 5, 6] (by kernel_rfl)) (wp_bind hM) (fun x779 at_780 A781 c782 bytes783 f784 f785 w hM h786 h787 hst => s_back hS.ev hst.appF rfl fun hS => ?_))
   replace hS : Ss _ _ _ H [f785, f784, f717, f721, f725, f729, f734] F _ _ := hS
   refine wpList_nil (then_n ?_)
   replace hst := hS.st
   obtain ⟨hcl, hmust, hav2, hA⟩ := dn (vals' := [some (ptr b708 0), some (ptr b708 0), some (ptr b708 0), some (ptr b733 1), some (.slice A719 w_707.literals_.codes_.length c720), some (.int .i64 s732), some (slp A719 (Int.toNat s732 * 1)), some (.int .i64 (rd w_707.literals_.codes_ s732)), some (.int .i64 i772), some (.int .i64 (ishr .i64 (rd w_707.literals_.codes_ s732) i772)), some (.int .i64 (iand .i64 (ishr .i64 (rd w_707.literals_.codes_ s732) i772) (1 : Int))), some (.int .u32 (wr .u32 (iand .i64 (ishr .i64 (rd w_707.literals_.codes_ s732) i772) (1 : Int)))), some (.int .i64 x779)]) 12 [(2, 12), (11, 12), (1, 2), (10, 11), (0, 1), (9, 10), (7, 9), (8, 9), (6, 7), (4, 6), (5, 6), (3, 4)] hA hcl hav hm hpre hk rfl rfl rfl rfl rfl rfl rfl
   clear hm hav
   refine phqE hA hst ho hcl hmust [] rfl rfl rfl trivial fun a w hS => ?_
   replace hS := hS.env2 (e' := [(0, ptr b708 0), (2, .int .i64 s732), (4, ptr b733 0), (6, .int .i64 i772)]) ⟨rfl, rfl, rfl, rfl, trivial⟩
   refine blk_n (then_n ?_)
   refine wp_region_list <| st1 hS (mv rfl) rfl fun a w hS => st1 hS (bin rfl rfl rfl) rfl fun a w hS => st1x (v := Value.int .i64) (x0 := (w64 (i772 - (1 : Int)))) hS (asg rfl) rfl fun i788 a w hz hS => ?_
   have hM := lt_to hz hM; clear hz
   refine wpList_nil <| then_n ?_
   exact hJ789 _ _ ⟨at_780, A781, c782, bytes783, f784, f785, i788, hS.to [0, 1, 2, 3, 4, 5, 6] (by kernel_rfl) ⟨rfl, rfl, rfl, rfl, trivial⟩, h786, h787, hM⟩
  ·refine wp_exit ?_
   refine then_ex (then_ex (blk_same ?_))
   exact s_end (rs := []) hS rfl rfl (hret at_764 A765 c766 bytes767 f768 f770 w (wp_ok hM) hV769 hB771 (hS.st.pick [0, 1, 2, 3, 4, 5] (by kernel_rfl)))

theorem deflate_scaled_c {H : Imm} {F : List Frag} {w : World} {R : Ending → World → Prop} {kr : (Int × Int × Int) → Prop} {kp : Value → Prop} (hG : Gl H) (K : Nat) (n_813 : Int) (told814 : Int)
    (hS : St w H [] F) (hm : (deflate_scaled.m K n_813 told814).wp kr kp)
    (hret : ∀ (symbol835 : Int) (bits836 : Int) (more837 : Int) (w : World), kr (symbol835, bits836, more837) → St w H [] F → R (.returned (.agg ⟨[.int .i64 symbol835, .int .i64 bits836, .int .u32 more837]⟩)) w) :
    Calls Tryd.prog 52 ⟨[.int .i64 n_813, .int .i64 told814]⟩ w R := by
 refine enter Tryd.func52 rfl Tryd.ntmps52 rfl hS fun a w hS => ?_
 have hM := hm; clear hm
 rw [deflate_scaled.m] at hM
 refine wp_seq <| wp_region_list <| alc ([.int .i64 (0 : Int), .int .i64 (0 : Int), .int .u32 (0 : Int)]) hS Tryd.zeroValue68 rfl rfl fun w b815 f816 hB817 hS => wpList_nil <| then_n <| wp_seq <| wp_region_list <| st1 hS (mv rfl) rfl fun a w hS => st1 hS (asg rfl) rfl fun a w hS => st1 hS (asg rfl) rfl fun a w hS => wpList_nil <| then_n <| seq_joinJ (fun a w => ∃ (k_826 : Int) (top827 : Int), Ss 29 [] [(0, .int .i64 n_813), (1, .int .i64 told814), (4, ptr b815 0), (5, .int .i64 k_826), (6, .int .i64 top827)] H [f816] F a w ∧ (deflate_scaled.j2 K n_813 told814 k_826 top827).wp kr kp) (fun J828 hJ828 => ?_) ?_
 ·refine wp_block ?_
  refine s_loopJ (fun k820 a w => ∃ (k_818 : Int) (top819 : Int), Ss 29 [] [(0, .int .i64 n_813), (1, .int .i64 told814), (4, ptr b815 0), (5, .int .i64 k_818), (6, .int .i64 top819)] H [f816] F a w ∧ (deflate_scaled.l1 K n_813 told814 k820 k_818 top819).wp kr kp) K ?_ ?_ ?_
  ·exact ⟨(0 : Int), n_813, hS.to [0] (by kernel_rfl) ⟨rfl, rfl, rfl, rfl, rfl, trivial⟩, hM⟩
  ·intro a w hI; obtain ⟨_, _, _, hM⟩ := hI; exact wp_fail hM
  ·intro k820 a w hI J825 hJ825
   obtain ⟨k_818, top819, hS, hM⟩ := hI
   rw [deflate_scaled.l1] at hM
   refine wp_seq <| wp_seq <| wp_region_list <| st1 hS (mv rfl) rfl fun a w hS => st1 hS (mv rfl) rfl fun a w hS => ?_
   obtain ⟨hk821, hM⟩ := wp_chk hM
   refine st1 hS (shl rfl rfl hk821) rfl fun a w hS => st1 hS (bin rfl rfl rfl) rfl fun a w hS => wpList_nil <| then_n <| s_cond hS rfl hM (fun hb822 hM => ?_) (fun hb822 hM => ?_)
   ·refine wp_skip ?_
    refine then_n <| wp_block <| wp_seq <| wp_region_list <| st1 hS (mv rfl) rfl fun a w hS => st1 hS (shr rfl rfl rfl) rfl fun a w hS => st1x (v := Value.int .i64) (x0 := (ishr .i64 top819 (1 : Int))) hS (asg rfl) rfl fun top823 a w hz hS => ?_
    have hM := lt_to hz hM; clear hz
    refine wpList_nil <| then_n <| wp_region_list <| st1 hS (mv rfl) rfl fun a w hS => st1 hS (bin rfl rfl rfl) rfl fun a w hS => st1x (v := Value.int .i64) (x0 := (w64 (k_818 + (1 : Int)))) hS (asg rfl) rfl fun k_824 a w hz hS => ?_
    have hM := lt_to hz hM; clear hz
    refine wpList_nil <| blk_n (then_n ?_)
    exact hJ825 _ _ ⟨k_824, top823, hS.to [0] (by kernel_rfl) ⟨rfl, rfl, rfl, rfl, rfl, trivial⟩, hM⟩
   ·refine wp_exit ?_
    refine then_ex (then_ex (blk_same (then_n ?_)))
    exact hJ828 _ _ ⟨k_818, top819, hS.to [0] (by kernel_rfl) ⟨rfl, rfl, rfl, rfl, rfl, trivial⟩, hM⟩
 ·intro a w hI
  obtain ⟨k_826, top827, hS, hM⟩ := hI
  rw [deflate_scaled.j2] at hM
  refine wp_seq ?_
  obtain ⟨hk830, hM⟩ := wp_chk hM
  obtain ⟨hk832, hM⟩ := wp_chk hM
  refine draw_begin (vals := [some (.int .i64 k_826), some (.int .i64 told814), some (.int .i64 (ishl .i64 k_826 told814)), some (.int .i64 top827), some (.int .i64 (w64 ((ishl .i64 k_826 told814) + top827))), some (.int .i64 k_826), some (.int .i64 n_813), some (.int .i64 top827), some (.int .i64 k_826), some (.int .i64 (ishl .i64 top827 k_826)), some (.int .i64 (w64 (n_813 - (ishl .i64 top827 k_826)))), some (.int .u32 (wr .u32 (w64 (n_813 - (ishl .i64 top827 k_826))))), some (.agg ⟨[.int .i64 (w64 ((ishl .i64 k_826 told814) + top827)), .int .i64 k_826, .int .u32 (wr .u32 (w64 (n_813 - (ishl .i64 top827 k_826))))]⟩), none]) hS mixed rfl ?_
  intro l w ho hcl hA hst
  refine phq hA hst ho hcl navail nmust 13 [0, 1, 2, 3, 4, 5, 6, 7, 8, 9, 10, 11, 12] rfl rfl rfl rfl rfl (by exact ⟨nR rfl rfl rfl rfl rfl (by exact ovE (mv rfl) rfl), nR rfl rfl rfl rfl rfl (by exact ovE (mv rfl) rfl), nR rfl rfl rfl rfl rfl (by exact ovE (shl rfl rfl hk830) rfl), nR rfl rfl rfl rfl rfl (by exact ovE (mv rfl) rfl), nR rfl rfl rfl rfl rfl (by exact ovE (bin rfl rfl rfl) rfl), nR rfl rfl rfl rfl rfl (by exact ovE (mv rfl) rfl), nR rfl rfl rfl rfl rfl (by exact ovE (mv rfl) rfl), nR rfl rfl rfl rfl rfl (by exact ovE (mv rfl) rfl), nR rfl rfl rfl rfl rfl (by exact ovE (mv rfl) rfl), nR rfl rfl rfl rfl rfl (by exact ovE (shl rfl rfl hk832) rfl), nR rfl rfl rfl rfl rfl (by exact ovE (bin rfl rfl rfl) rfl), nR rfl rfl rfl rfl rfl (by exact ovE (cvi rfl Tryd.runUnderlying3 Tryd.runUnderlying53) rfl), nR rfl rfl rfl rfl rfl (by exact ovE (bld ([.int .i64 (w64 ((ishl .i64 k_826 told814) + top827)), .int .i64 k_826, .int .u32 (wr .u32 (w64 (n_813 - (ishl .i64 top827 k_826))))]) [(0, 1), (1, 1), (2, 1)] Tryd.zeroValue68 Tryd.runUnderlying68 (by intro w; simp [Tryd.sizeOf3, Tryd.sizeOf53]) rfl rfl) rfl), trivial⟩) fun D l a w ho hcl hav hpre hm hE hk hA hst => ?_
  have hS := (Ss.mk hE hst).env2 (e' := [(4, ptr b815 0), (28, .agg ⟨[.int .i64 (w64 ((ishl .i64 k_826 told814) + top827)), .int .i64 k_826, .int .u32 (wr .u32 (w64 (n_813 - (ishl .i64 top827 k_826))))]⟩)]) ⟨rfl, rfl, trivial⟩
  refine op_of_nth rfl <| stB 0 ([.int .i64 (w64 ((ishl .i64 k_826 told814) + top827)), .int .i64 k_826, .int .u32 (wr .u32 (w64 (n_813 - (ishl .i64 top827 k_826))))]) ([.int .i64 (w64 ((ishl .i64 k_826 told814) + top827)), .int .i64 k_826, .int .u32 (wr .u32 (w64 (n_813 - (ishl .i64 top827 k_826))))]) hS rfl rfl hB817 rfl rfl Tryd.sizeOf68 (by simp [Value.oneCell']) (Nat.le_of_ble_eq_true rfl) rfl fun w f833 hB834 hS => wpList_nil (then_n ?_)
  replace hst := hS.st
  obtain ⟨hcl, hmust, hav2, hA⟩ := dnN (vals' := [some (.int .i64 k_826), some (.int .i64 told814), some (.int .i64 (ishl .i64 k_826 told814)), some (.int .i64 top827), some (.int .i64 (w64 ((ishl .i64 k_826 told814) + top827))), some (.int .i64 k_826), some (.int .i64 n_813), some (.int .i64 top827), some (.int .i64 k_826), some (.int .i64 (ishl .i64 top827 k_826)), some (.int .i64 (w64 (n_813 - (ishl .i64 top827 k_826)))), some (.int .u32 (wr .u32 (w64 (n_813 - (ishl .i64 top827 k_826))))), some (.agg ⟨[.int .i64 (w64 ((ishl .i64 k_826 told814) + top827)), .int .i64 k_826, .int .u32 (wr .u32 (w64 (n_813 - (ishl .i64 top827 k_826))))]⟩), some undef]) 13 [(0, 13), (1, 13), (2, 13), (3, 13), (4, 13), (5, 13), (6, 13), (7, 13), (8, 13), (9, 13), (10, 13), (11, 13), (12, 13)] hA hcl hav hm hpre rfl rfl rfl rfl rfl
  clear hm hav
  refine phqE hA hst ho hcl hmust [] rfl rfl rfl trivial fun a w hS => ?_
  replace hS := hS.env2 (e' := [(4, ptr b815 0)]) ⟨rfl, trivial⟩
  refine then_n <| wp_ret ?_
  exact s_retC (vs := [.agg ⟨[.int .i64 (w64 ((ishl .i64 k_826 told814) + top827)), .int .i64 k_826, .int .u32 (wr .u32 (w64 (n_813 - (ishl .i64 top827 k_826))))]⟩]) hS rfl (by exact ⟨rvA 0 ([.int .i64 (w64 ((ishl .i64 k_826 told814) + top827)), .int .i64 k_826, .int .u32 (wr .u32 (w64 (n_813 - (ishl .i64 top827 k_826))))]) rfl hB834 rfl rfl rfl Tryd.isAgg68 Tryd.sizeOf68, trivial⟩) (hret (w64 ((ishl .i64 k_826 told814) + top827)) k_826 (wr .u32 (w64 (n_813 - (ishl .i64 top827 k_826)))) w (wp_ok hM) (hS.st.pick [] (by kernel_rfl)))

theorem deflate_length_c {H : Imm} {F : List Frag} {w : World} {R : Ending → World → Prop} {kr : (Int × Int × Int) → Prop} {kp : Value → Prop} (hG : Gl H) (K : Nat) (n_806 : Int)
    (hS : St w H [] F) (hm : (deflate_length.m K n_806).wp kr kp)
    (hret : ∀ (symbol850 : Int) (bits851 : Int) (more852 : Int) (w : World), kr (symbol850, bits851, more852) → St w H [] F → R (.returned (.agg ⟨[.int .i64 symbol850, .int .i64 bits851, .int .u32 more852]⟩)) w) :
    Calls Tryd.prog 35 ⟨[.int .i64 n_806]⟩ w R := by
 refine enter Tryd.func35 rfl Tryd.ntmps35 rfl hS fun a w hS => ?_
 have hM := hm; clear hm
 rw [deflate_length.m] at hM
 refine wp_seq <| wp_region_list <| alc ([.int .i64 (0 : Int), .int .i64 (0 : Int), .int .u32 (0 : Int)]) hS Tryd.zeroValue68 rfl rfl fun w b807 f808 hB809 hS => wpList_nil <| then_n <| wp_seq <| wp_seq <| wp_region_list <| st1 hS (mv rfl) rfl fun a w hS => st1 hS (bin rfl rfl rfl) rfl fun a w hS => wpList_nil <| then_n <| s_cond hS rfl hM (fun hb810 hM => ?_) (fun hb810 hM => ?_)
 ·refine wp_seq ?_
  refine wp_region_list <| st1 hS (bld ([.int .i64 (285 : Int), .int .i64 (0 : Int), .int .u32 (0 : Int)]) [(0, 1), (1, 1), (2, 1)] Tryd.zeroValue68 Tryd.runUnderlying68 (by intro w; simp [Tryd.sizeOf3, Tryd.sizeOf53]) rfl rfl) rfl fun a w hS => stB 0 ([.int .i64 (285 : Int), .int .i64 (0 : Int), .int .u32 (0 : Int)]) ([.int .i64 (285 : Int), .int .i64 (0 : Int), .int .u32 (0 : Int)]) hS rfl rfl hB809 rfl rfl Tryd.sizeOf68 (by simp [Value.oneCell']) (Nat.le_of_ble_eq_true rfl) rfl fun w f811 hB812 hS => wpList_nil <| then_n <| wp_ret <| then_ret ?_
  exact s_retC (vs := [.agg ⟨[.int .i64 (285 : Int), .int .i64 (0 : Int), .int .u32 (0 : Int)]⟩]) hS rfl (by exact ⟨rvA 0 ([.int .i64 (285 : Int), .int .i64 (0 : Int), .int .u32 (0 : Int)]) rfl hB812 rfl rfl rfl Tryd.isAgg68 Tryd.sizeOf68, trivial⟩) (hret (285 : Int) (0 : Int) (0 : Int) w (wp_ok hM) (hS.st.pick [] (by kernel_rfl)))
 ·refine wp_skip ?_
  refine then_n <| wp_seq <| wp_region_list <| st1 hS (mv rfl) rfl fun a w hS => st1 hS (bin rfl rfl rfl) rfl fun a w hS => s_call hS rfl Tryd.call52 (deflate_scaled_c hG K (w64 (n_806 - (3 : Int))) (2 : Int) (hS.st.part 0 [0] (by kernel_rfl)) (wp_bind hM) (fun symbol838 bits839 more840 w hM  hst => s_back hS.ev hst.appF rfl fun hS => ?_))
  replace hS : Ss _ _ _ H [f808] F _ _ := hS
  refine alc ([.int .i64 (0 : Int), .int .i64 (0 : Int), .int .u32 (0 : Int)]) hS Tryd.zeroValue68 rfl rfl fun w b841 f842 hB843 hS => stB 0 ([.int .i64 symbol838, .int .i64 bits839, .int .u32 more840]) ([.int .i64 symbol838, .int .i64 bits839, .int .u32 more840]) hS rfl rfl hB843 rfl rfl Tryd.sizeOf68 (by simp [Value.oneCell']) (Nat.le_of_ble_eq_true rfl) rfl fun w f844 hB845 hS => wpList_nil <| then_n <| wp_seq <| wp_region_list <| st1 hS (fad rfl Tryd.runUnderlying68 rfl Tryd.sizeOf3 rfl) rfl fun a w hS => st1 hS (ldb 0 rfl hB845 rfl rfl Tryd.isAgg3) rfl fun a w hS => st1 hS (bin rfl rfl rfl) rfl fun a w hS => st1 hS (fad rfl Tryd.runUnderlying68 rfl Tryd.sizeOf3 rfl) rfl fun a w hS => sto 0 ([.int .i64 (w64 (symbol838 + (257 : Int))), .int .i64 bits839, .int .u32 more840]) hS rfl rfl hB845 rfl rfl rfl rfl Tryd.sizeOf3 fun w f846 hB847 hS => wpList_nil <| then_n <| wp_seq <| wp_region_list <| st1 hS (ldbA 0 rfl hB847 rfl ([.int .i64 (w64 (symbol838 + (257 : Int))), .int .i64 bits839, .int .u32 more840]) rfl rfl Tryd.isAgg68 Tryd.sizeOf68) rfl fun a w hS => stB 1 ([.int .i64 (w64 (symbol838 + (257 : Int))), .int .i64 bits839, .int .u32 more840]) ([.int .i64 (w64 (symbol838 + (257 : Int))), .int .i64 bits839, .int .u32 more840]) hS rfl rfl hB809 rfl rfl Tryd.sizeOf68 (by simp [Value.oneCell']) (Nat.le_of_ble_eq_true rfl) rfl fun w f848 hB849 hS => wpList_nil <| then_n <| wp_ret ?_
  exact s_retC (vs := [.agg ⟨[.int .i64 (w64 (symbol838 + (257 : Int))), .int .i64 bits839, .int .u32 more840]⟩]) hS rfl (by exact ⟨rvA 1 ([.int .i64 (w64 (symbol838 + (257 : Int))), .int .i64 bits839, .int .u32 more840]) rfl hB849 rfl rfl rfl Tryd.isAgg68 Tryd.sizeOf68, trivial⟩) (hret (w64 (symbol838 + (257 : Int))) bits839 more840 w (wp_ok hM) (hS.st.pick [] (by kernel_rfl)))

theorem deflate_writer_part_1279_c {H : Imm} {F : List Frag} {w : World} {R : Ending → World → Prop} {kr : (Int × (List Int)) → Prop} {kp : Value → Prop} (hG : Gl H) (K : Nat) (w_856 : T_deflate_writer) (c_880 : T_deflate_code) (p881 : T_deflate_part) (b857 : Nat) (f858 : Frag) (A860 : Option Addr) (c861 : Nat) (f862 : Frag) (A864 : Option Addr) (c865 : Nat) (f866 : Frag) (A868 : Option Addr) (c869 : Nat) (f870 : Frag) (A872 : Option Addr) (c873 : Nat) (f874 : Frag) (A876 : Option Addr) (c877 : Nat) (f878 : Frag) (hB859 : Blk f858 b857 ([.int .i64 w_856.Writer_.place_.at_, .slice A860 w_856.Writer_.bytes_.length c861, .slice A864 w_856.literals_.lengths_.length c865, .slice A868 w_856.literals_.codes_.length c869, .slice A872 w_856.distances_.lengths_.length c873, .slice A876 w_856.distances_.codes_.length c877]) 49) (hV863 : Vec 5 (ci .u8) 1 A860 w_856.Writer_.bytes_ c861 f862) (hV867 : Vec 3 (ci .i64) 1 A864 w_856.literals_.lengths_ c865 f866) (hV871 : Vec 3 (ci .i64) 1 A868 w_856.literals_.codes_ c869 f870) (hV875 : Vec 3 (ci .i64) 1 A872 w_856.distances_.lengths_ c873 f874) (hV879 : Vec 3 (ci .i64) 1 A876 w_856.distances_.codes_ c877 f878)
    (hS : St w H [f858, f862, f866, f870, f874, f878] F) (hm : (deflate_writer_part_1279.m K w_856 c_880 p881).wp kr kp)
    (hret : ∀ (at_905 : Int) (A906 : Option Addr) (c907 : Nat) (bytes908 : (List Int)) (f909 : Frag) (f911 : Frag) (w : World), kr (at_905, bytes908) → (Vec 5 (ci .u8) 1 A906 bytes908 c907 f909) → (Blk f911 b857 ([.int .i64 at_905, .slice A906 bytes908.length c907, .slice A864 w_856.literals_.lengths_.length c865, .slice A868 w_856.literals_.codes_.length c869, .slice A872 w_856.distances_.lengths_.length c873, .slice A876 w_856.distances_.codes_.length c877]) 49) → St w H [f911, f909, f866, f870, f874, f878] F → R (.returned (.tuple ⟨[]⟩)) w) :
    Calls Tryd.prog 50 ⟨[ptr b857 0, .agg ⟨[.slice A864 w_856.literals_.lengths_.length c865, .slice A868 w_856.literals_.codes_.length c869]⟩, .agg ⟨[.int .i64 p881.symbol_, .int .i64 p881.bits_, .int .u32 p881.more_]⟩]⟩ w R := by
 refine enter Tryd.func50 rfl Tryd.ntmps50 rfl hS fun a w hS => ?_
 have hM := hm; clear hm
 rw [deflate_writer_part_1279.m] at hM
 refine wp_seq <| wp_region_list <| bx ([.slice A864 w_856.literals_.lengths_.length c865, .slice A868 w_856.literals_.codes_.length c869]) hS rfl rfl rfl fun w b882 f883 hB884 hS => bx ([.int .i64 p881.symbol_, .int .i64 p881.bits_, .int .u32 p881.more_]) hS rfl rfl rfl fun w b885 f886 hB887 hS => wpList_nil <| then_n <| wp_seq <| wp_region_list <| st1 hS (mv rfl) rfl fun a w hS => st1 hS (ldbA 1 rfl hB884 rfl ([.slice A864 w_856.literals_.lengths_.length c865, .slice A868 w_856.literals_.codes_.length c869]) rfl rfl Tryd.isAgg47 Tryd.sizeOf47) rfl fun a w hS => st1 hS (fad rfl Tryd.runUnderlying68 rfl Tryd.sizeOf3 rfl) rfl fun a w hS => st1 hS (ldb 0 rfl hB887 rfl rfl Tryd.isAgg3) rfl fun a w hS => s_call hS rfl Tryd.call41 (deflate_writer_symbol_1279_c hG K w_856 w_856.literals_ p881.symbol_ b857 f858 A860 c861 f862 A864 c865 f866 A868 c869 f870 A872 c873 f874 A876 c877 f878 hB859 hV863 hV867 hV871 hV875 hV879 (hS.st.part 6 [2, 3, 4, 5, 6, 7, 0, 1] (by kernel_rfl)) (wp_bind hM) (fun at_888 A889 c890 bytes891 f892 f893 w hM h894 h895 hst => s_back hS.ev hst.appF rfl fun hS => ?_))
 replace hS : Ss _ _ _ H [f893, f892, f866, f870, f874, f878, f886, f883] F _ _ := hS
 refine wpList_nil <| then_n <| draw_begin (vals := [some (ptr b857 0), some (ptr b857 0), some (ptr b857 0), some (ptr b885 2), some (.int .u32 p881.more_), some (ptr b885 1), some (.int .i64 p881.bits_), none]) hS mixed rfl ?_
 intro l w ho hcl hA hst
 refine phq hA hst ho hcl navail nmust 7 [0, 1, 2, 3, 4, 5, 6] rfl rfl rfl rfl rfl (by exact ⟨nR rfl rfl rfl rfl rfl (by exact ovE (mv rfl) rfl), nR rfl rfl rfl rfl rfl (by exact ovE (nck rfl) rfl), nR rfl rfl rfl rfl rfl (by exact ovE (fad rfl Tryd.runUnderlying49 rfl Tryd.sizeOf44 rfl) rfl), nR rfl rfl rfl rfl rfl (by exact ovE (fad rfl Tryd.runUnderlying68 rfl Tryd.sizeOf53 rfl) rfl), nR rfl rfl rfl rfl rfl (by exact ovE (ldb 6 rfl hB887 rfl rfl Tryd.isAgg53) rfl), nR rfl rfl rfl rfl rfl (by exact ovE (fad rfl Tryd.runUnderlying68 rfl Tryd.sizeOf3 rfl) rfl), nR rfl rfl rfl rfl rfl (by exact ovE (ldb 6 rfl hB887 rfl rfl Tryd.isAgg3) rfl), trivial⟩) fun D l a w ho hcl hav hpre hm hE hk hA hst => ?_
 have hS := (Ss.mk hE hst).env2 (e' := [(13, ptr b857 0), (15, .int .u32 p881.more_), (17, .int .i64 p881.bits_)]) ⟨rfl, rfl, rfl, trivial⟩
 refine op_of_nth rfl <| s_call hS rfl Tryd.call23 (bits_Writer_Put_deflate_writer_c hG K (T_deflate_writer.mk (T_bits_Writer.mk (T_bits_place.mk at_888) bytes891) w_856.literals_ w_856.distances_) p881.more_ p881.bits_ b857 f893 A889 c890 f892 A864 c865 f866 A868 c869 f870 A872 c873 f874 A876 c877 f878 h895 h894 hV867 hV871 hV875 hV879 (hS.st.part 6 [0, 1, 2, 3, 4, 5, 6, 7] (by kernel_rfl)) (wp_bind hM) (fun x896 at_897 A898 c899 bytes900 f901 f902 w hM h903 h904 hst => s_back hS.ev hst.appF rfl fun hS => ?_))
 replace hS : Ss _ _ _ H [f902, f901, f866, f870, f874, f878, f886, f883] F _ _ := hS
 refine wpList_nil (then_n ?_)
 replace hst := hS.st
 obtain ⟨hcl, hmust, hav2, hA⟩ := dn (vals' := [some (ptr b857 0), some (ptr b857 0), some (ptr b857 0), some (ptr b885 2), some (.int .u32 p881.more_), some (ptr b885 1), some (.int .i64 p881.bits_), some (.int .i64 x896)]) 7 [(2, 7), (4, 7), (6, 7), (1, 2), (3, 4), (5, 6), (0, 1)] hA hcl hav hm hpre hk rfl rfl rfl rfl rfl rfl rfl
 clear hm hav
 refine phqE hA hst ho hcl hmust [] rfl rfl rfl trivial fun a w hS => ?_
 replace hS := hS.env2 (e' := []) trivial
 exact s_end (rs := []) hS rfl rfl (hret at_897 A898 c899 bytes900 f901 f902 w (wp_ok hM) h903 h904 (hS.st.pick [0, 1, 2, 3, 4, 5] (by kernel_rfl)))

theorem deflate_distance_c {H : Imm} {F : List Frag} {w : World} {R : Ending → World → Prop} {kr : (Int × Int × Int) → Prop} {kp : Value → Prop} (hG : Gl H) (K : Nat) (n_921 : Int)
    (hS : St w H [] F) (hm : (deflate_distance.m K n_921).wp kr kp)
    (hret : ∀ (symbol930 : Int) (bits931 : Int) (more932 : Int) (w : World), kr (symbol930, bits931, more932) → St w H [] F → R (.returned (.agg ⟨[.int .i64 symbol930, .int .i64 bits931, .int .u32 more932]⟩)) w) :
    Calls Tryd.prog 36 ⟨[.int .i64 n_921]⟩ w R := by
 refine enter Tryd.func36 rfl Tryd.ntmps36 rfl hS fun a w hS => ?_
 have hM := hm; clear hm
 rw [deflate_distance.m] at hM
 refine wp_seq <| wp_region_list <| alc ([.int .i64 (0 : Int), .int .i64 (0 : Int), .int .u32 (0 : Int)]) hS Tryd.zeroValue68 rfl rfl fun w b922 f923 hB924 hS => wpList_nil <| then_n <| wp_seq <| wp_region_list <| st1 hS (mv rfl) rfl fun a w hS => st1 hS (bin rfl rfl rfl) rfl fun a w hS => s_call hS rfl Tryd.call52 (deflate_scaled_c hG K (w64 (n_921 - (1 : Int))) (1 : Int) (hS.st.part 0 [0] (by kernel_rfl)) (wp_bind hM) (fun symbol925 bits926 more927 w hM  hst => s_back hS.ev hst.appF rfl fun hS => ?_))
 replace hS : Ss _ _ _ H [f923] F _ _ := hS
 refine stB 0 ([.int .i64 symbol925, .int .i64 bits926, .int .u32 more927]) ([.int .i64 symbol925, .int .i64 bits926, .int .u32 more927]) hS rfl rfl hB924 rfl rfl Tryd.sizeOf68 (by simp [Value.oneCell']) (Nat.le_of_ble_eq_true rfl) rfl fun w f928 hB929 hS => wpList_nil <| then_n <| wp_ret ?_
 exact s_retC (vs := [.agg ⟨[.int .i64 symbol925, .int .i64 bits926, .int .u32 more927]⟩]) hS rfl (by exact ⟨rvA 0 ([.int .i64 symbol925, .int .i64 bits926, .int .u32 more927]) rfl hB929 rfl rfl rfl Tryd.isAgg68 Tryd.sizeOf68, trivial⟩) (hret symbol925 bits926 more927 w (wp_ok hM) (hS.st.pick [] (by kernel_rfl)))

theorem deflate_writer_symbol_7ef6_c {H : Imm} {F : List Frag} {w : World} {R : Ending → World → Prop} {kr : (Int × (List Int)) → Prop} {kp : Value → Prop} (hG : Gl H) (K : Nat) (w_968 : T_deflate_writer) (c_992 : T_deflate_code) (s993 : Int) (b969 : Nat) (f970 : Frag) (A972 : Option Addr) (c973 : Nat) (f974 : Frag) (A976 : Option Addr) (c977 : Nat) (f978 : Frag) (A980 : Option Addr) (c981 : Nat) (f982 : Frag) (A984 : Option Addr) (c985 : Nat) (f986 : Frag) (A988 : Option Addr) (c989 : Nat) (f990 : Frag) (hB971 : Blk f970 b969 ([.int .i64 w_968.Writer_.place_.at_, .slice A972 w_968.Writer_.bytes_.length c973, .slice A976 w_968.literals_.lengths_.length c977, .slice A980 w_968.literals_.codes_.length c981, .slice A984 w_968.distances_.lengths_.length c985, .slice A988 w_968.distances_.codes_.length c989]) 49) (hV975 : Vec 5 (ci .u8) 1 A972 w_968.Writer_.bytes_ c973 f974) (hV979 : Vec 3 (ci .i64) 1 A976 w_968.literals_.lengths_ c977 f978) (hV983 : Vec 3 (ci .i64) 1 A980 w_968.literals_.codes_ c981 f982) (hV987 : Vec 3 (ci .i64) 1 A984 w_968.distances_.lengths_ c985 f986) (hV991 : Vec 3 (ci .i64) 1 A988 w_968.distances_.codes_ c989 f990)
    (hS : St w H [f970, f974, f978, f982, f986, f990] F) (hm : (deflate_writer_symbol_7ef6.m K w_968 c_992 s993).wp kr kp)
    (hret : ∀ (at_1051 : Int) (A1052 : Option Addr) (c1053 : Nat) (bytes1054 : (List Int)) (f1055 : Frag) (f1057 : Frag) (w : World), kr (at_1051, bytes1054) → (Vec 5 (ci .u8) 1 A1052 bytes1054 c1053 f1055) → (Blk f1057 b969 ([.int .i64 at_1051, .slice A1052 bytes1054.length c1053, .slice A976 w_968.literals_.lengths_.length c977, .slice A980 w_968.literals_.codes_.length c981, .slice A984 w_968.distances_.lengths_.length c985, .slice A988 w_968.distances_.codes_.length c989]) 49) → St w H [f1057, f1055, f978, f982, f986, f990] F → R (.returned (.tuple ⟨[]⟩)) w) :
    Calls Tryd.prog 41 ⟨[ptr b969 0, .agg ⟨[.slice A984 w_968.distances_.lengths_.length c985, .slice A988 w_968.distances_.codes_.length c989]⟩, .int .i64 s993]⟩ w R := by
 refine enter Tryd.func41 rfl Tryd.ntmps41 rfl hS fun a w hS => ?_
 have hM := hm; clear hm
 rw [deflate_writer_symbol_7ef6.m] at hM
 refine wp_seq <| wp_region_list <| bx ([.slice A984 w_968.distances_.lengths_.length c985, .slice A988 w_968.distances_.codes_.length c989]) hS rfl rfl rfl fun w b994 f995 hB996 hS => wpList_nil <| then_n <| wp_seq <| wp_region_list <| st1 hS (fad rfl Tryd.runUnderlying47 rfl Tryd.sizeOf45 rfl) rfl fun a w hS => st1 hS (ldb 0 rfl hB996 rfl rfl Tryd.isAgg45) rfl fun a w hS => st1 hS (mv rfl) rfl fun a w hS => ?_
 obtain ⟨hk997, hM⟩ := wp_chk hM
 refine st1 hS (ixV rfl rfl Tryd.runUnderlying45 Tryd.sizeOf3 (hV987.rd (i := 5) rfl) (fun _ => rfl) rfl hk997) rfl fun a w hS => st1 hS (ldV0 rfl (hV987.rd (i := 5) rfl) (fun _ => rfl) hk997 rfl Tryd.isAgg3) rfl fun a w hS => st1 hS (bin rfl rfl rfl) rfl fun a w hS => st1x (v := Value.int .i64) (x0 := (w64 ((rd w_968.distances_.lengths_ s993) - (1 : Int)))) hS (asg rfl) rfl fun i998 a w hz hS => ?_
 have hM := lt_to hz hM; clear hz
 refine wpList_nil <| then_n <| wp_block <| s_loopJ (fun k1034 a w => ∃ (at_1025 : Int) (A1026 : Option Addr) (c1027 : Nat) (bytes1028 : (List Int)) (f1029 : Frag) (f1031 : Frag) (i1033 : Int), Ss 30 [] [(0, ptr b969 0), (2, .int .i64 s993), (4, ptr b994 0), (6, .int .i64 i1033)] H [f1031, f1029, f978, f982, f986, f990, f995] F a w ∧ (Vec 5 (ci .u8) 1 A1026 bytes1028 c1027 f1029) ∧ (Blk f1031 b969 ([.int .i64 at_1025, .slice A1026 bytes1028.length c1027, .slice A976 w_968.literals_.lengths_.length c977, .slice A980 w_968.literals_.codes_.length c981, .slice A984 w_968.distances_.lengths_.length c985, .slice A988 w_968.distances_.codes_.length c989]) 49) ∧ (deflate_writer_symbol_7ef6.l1 K w_968 s993 k1034 at_1025 bytes1028 i1033).wp kr kp) K ?_ ?_ ?_
 ·exact ⟨w_968.Writer_.place_.at_, A972, c973, w_968.Writer_.bytes_, f974, f970, i998, hS.to [1, 2, 3, 4, 5, 6, 0] (by kernel_rfl) ⟨rfl, rfl, rfl, rfl, trivial⟩, hV975, hB971, hM⟩
 ·intro a w hI; obtain ⟨_, _, _, _, _, _, _, _, _, _, hM⟩ := hI; exact wp_fail hM
 ·intro k1034 a w hI J1050 hJ1050
  obtain ⟨at_1025, A1026, c1027, bytes1028, f1029, f1031, i1033, hS, hV1030, hB1032, hM⟩ := hI
  rw [deflate_writer_symbol_7ef6.l1] at hM
  refine wp_seq <| wp_seq <| wp_region_list <| st1 hS (mv rfl) rfl fun a w hS => st1 hS (bin rfl rfl rfl) rfl fun a w hS => wpList_nil <| then_n <| s_cond hS rfl hM (fun hb1035 hM => ?_) (fun hb1035 hM => ?_)
  ·refine wp_skip ?_
   refine then_n <| wp_seq <| wp_block ?_
   obtain ⟨hk1037, hM⟩ := wp_chk hM
   obtain ⟨hk1039, hM⟩ := wp_chk hM
   refine draw_begin (vals := [some (ptr b969 0), some (ptr b969 0), some (ptr b969 0), some (ptr b994 1), some (.slice A988 w_968.distances_.codes_.length c989), some (.int .i64 s993), some (slp A988 (Int.toNat s993 * 1)), some (.int .i64 (rd w_968.distances_.codes_ s993)), some (.int .i64 i1033), some (.int .i64 (ishr .i64 (rd w_968.distances_.codes_ s993) i1033)), some (.int .i64 (iand .i64 (ishr .i64 (rd w_968.distances_.codes_ s993) i1033) (1 : Int))), some (.int .u32 (wr .u32 (iand .i64 (ishr .i64 (rd w_968.distances_.codes_ s993) i1033) (1 : Int)))), none]) hS mixed rfl ?_
   intro l w ho hcl hA hst
   refine phq hA hst ho hcl navail nmust 12 [0, 1, 2, 3, 4, 5, 6, 7, 8, 9, 10, 11] rfl rfl rfl rfl rfl (by exact ⟨nR rfl rfl rfl rfl rfl (by exact ovE (mv rfl) rfl), nR rfl rfl rfl rfl rfl (by exact ovE (nck rfl) rfl), nR rfl rfl rfl rfl rfl (by exact ovE (fad rfl Tryd.runUnderlying49 rfl Tryd.sizeOf44 rfl) rfl), nR rfl rfl rfl rfl rfl (by exact ovE (fad rfl Tryd.runUnderlying47 rfl Tryd.sizeOf45 rfl) rfl), nR rfl rfl rfl rfl rfl (by exact ovE (ldb 6 rfl hB996 rfl rfl Tryd.isAgg45) rfl), nR rfl rfl rfl rfl rfl (by exact ovE (mv rfl) rfl), nR rfl rfl rfl rfl rfl (by exact ovE (ixV rfl rfl Tryd.runUnderlying45 Tryd.sizeOf3 (hV991.rd (i := 5) rfl) (fun _ => rfl) rfl hk1037) rfl), nR rfl rfl rfl rfl rfl (by exact ovE (ldV0 rfl (hV991.rd (i := 5) rfl) (fun _ => rfl) hk1037 rfl Tryd.isAgg3) rfl), nR rfl rfl rfl rfl rfl (by exact ovE (mv rfl) rfl), nR rfl rfl rfl rfl rfl (by exact ovE (shr rfl rfl hk1039) rfl), nR rfl rfl rfl rfl rfl (by exact ovE (bin rfl rfl rfl) rfl), nR rfl rfl rfl rfl rfl (by exact ovE (cvi rfl Tryd.runUnderlying3 Tryd.runUnderlying53) rfl), trivial⟩) fun D l a w ho hcl hav hpre hm hE hk hA hst => ?_
   have hS := (Ss.mk hE hst).env2 (e' := [(19, ptr b969 0), (28, .int .u32 (wr .u32 (iand .i64 (ishr .i64 (rd w_968.distances_.codes_ s993) i1033) (1 : Int))))]) ⟨rfl, rfl, trivial⟩
   refine op_of_nth rfl <| s_call hS rfl Tryd.call23 (bits_Writer_Put_deflate_writer_c hG K (T_deflate_writer.mk (T_bits_Writer.mk (T_bits_place.mk at_1025) bytes1028) w_968.literals_ w_968.distances_) (wr .u32 (iand .i64 (ishr .i64 (rd w_968.distances_.codes_ s993) i1033) (1 : Int))) (1 : Int) b969 f1031 A1026 c1027 f1029 A976 c977 f978 A980 c981 f982 A984 c985 f986 A988 c989 f990 hB1032 hV1030 hV979 hV983 hV987 hV991 (hS.st.part 6 [0, 1, 2, 3, 4, 5, 6] (by kernel_rfl)) (wp_bind hM) (fun x1040 at_1041 A1042 c1043 bytes1044 f1045 f1046 w hM h1047 h1048 hst => s_back hS.ev hst.appF rfl fun hS => ?_))
   replace hS : Ss _ _ _ H [f1046, f1045, f978, f982, f986, f990, f995] F _ _ := hS
   refine wpList_nil (then_n ?_)
   replace hst := hS.st
   obtain ⟨hcl, hmust, hav2, hA⟩ := dn (vals' := [some (ptr b969 0), some (ptr b969 0), some (ptr b969 0), some (ptr b994 1), some (.slice A988 w_968.distances_.codes_.length c989), some (.int .i64 s993), some (slp A988 (Int.toNat s993 * 1)), some (.int .i64 (rd w_968.distances_.codes_ s993)), some (.int .i64 i1033), some (.int .i64 (ishr .i64 (rd w_968.distances_.codes_ s993) i1033)), some (.int .i64 (iand .i64 (ishr .i64 (rd w_968.distances_.codes_ s993) i1033) (1 : Int))), some (.int .u32 (wr .u32 (iand .i64 (ishr .i64 (rd w_968.distances_.codes_ s993) i1033) (1 : Int)))), some (.int .i64 x1040)]) 12 [(2, 12), (11, 12), (1, 2), (10, 11), (0, 1), (9, 10), (7, 9), (8, 9), (6, 7), (4, 6), (5, 6), (3, 4)] hA hcl hav hm hpre hk rfl rfl rfl rfl rfl rfl rfl
   clear hm hav
   refine phqE hA hst ho hcl hmust [] rfl rfl rfl trivial fun a w hS => ?_
   replace hS := hS.env2 (e' := [(0, ptr b969 0), (2, .int .i64 s993), (4, ptr b994 0), (6, .int .i64 i1033)]) ⟨rfl, rfl, rfl, rfl, trivial⟩
   refine blk_n (then_n ?_)
   refine wp_region_list <| st1 hS (mv rfl) rfl fun a w hS => st1 hS (bin rfl rfl rfl) rfl fun a w hS => st1x (v := Value.int .i64) (x0 := (w64 (i1033 - (1 : Int)))) hS (asg rfl) rfl fun i1049 a w hz hS => ?_
   have hM := lt_to hz hM; clear hz
   refine wpList_nil <| then_n ?_
   exact hJ1050 _ _ ⟨at_1041, A1042, c1043, bytes1044, f1045, f1046, i1049, hS.to [0, 1, 2, 3, 4, 5, 6] (by kernel_rfl) ⟨rfl, rfl, rfl, rfl, trivial⟩, h1047, h1048, hM⟩
  ·refine wp_exit ?_
   refine then_ex (then_ex (blk_same ?_))
   exact s_end (rs := []) hS rfl rfl (hret at_1025 A1026 c1027 bytes1028 f1029 f1031 w (wp_ok hM) hV1030 hB1032 (hS.st.pick [0, 1, 2, 3, 4, 5] (by kernel_rfl)))

theorem deflate_writer_part_7ef6_c {H : Imm} {F : List Frag} {w : World} {R : Ending → World → Prop} {kr : (Int × (List Int)) → Prop} {kp : Value → Prop} (hG : Gl H) (K : Nat) (w_936 : T_deflate_writer) (c_960 : T_deflate_code) (p961 : T_deflate_part) (b937 : Nat) (f938 : Frag) (A940 : Option Addr) (c941 : Nat) (f942 : Frag) (A944 : Option Addr) (c945 : Nat) (f946 : Frag) (A948 : Option Addr) (c949 : Nat) (f950 : Frag) (A952 : Option Addr) (c953 : Nat) (f954 : Frag) (A956 : Option Addr) (c957 : Nat) (f958 : Frag) (hB939 : Blk f938 b937 ([.int .i64 w_936.Writer_.place_.at_, .slice A940 w_936.Writer_.bytes_.length c941, .slice A944 w_936.literals_.lengths_.length c945, .slice A948 w_936.literals_.codes_.length c949, .slice A952 w_936.distances_.lengths_.length c953, .slice A956 w_936.distances_.codes_.length c957]) 49) (hV943 : Vec 5 (ci .u8) 1 A940 w_936.Writer_.bytes_ c941 f942) (hV947 : Vec 3 (ci .i64) 1 A944 w_936.literals_.lengths_ c945 f946) (hV951 : Vec 3 (ci .i64) 1 A948 w_936.literals_.codes_ c949 f950) (hV955 : Vec 3 (ci .i64) 1 A952 w_936.distances_.lengths_ c953 f954) (hV959 : Vec 3 (ci .i64) 1 A956 w_936.distances_.codes_ c957 f958)
    (hS : St w H [f938, f942, f946, f950, f954, f958] F) (hm : (deflate_writer_part_7ef6.m K w_936 c_960 p961).wp kr kp)
    (hret : ∀ (at_1076 : Int) (A1077 : Option Addr) (c1078 : Nat) (bytes1079 : (List Int)) (f1080 : Frag) (f1082 : Frag) (w : World), kr (at_1076, bytes1079) → (Vec 5 (ci .u8) 1 A1077 bytes1079 c1078 f1080) → (Blk f1082 b937 ([.int .i64 at_1076, .slice A1077 bytes1079.length c1078, .slice A944 w_936.literals_.lengths_.length c945, .slice A948 w_936.literals_.codes_.length c949, .slice A952 w_936.distances_.lengths_.length c953, .slice A956 w_936.distances_.codes_.length c957]) 49) → St w H [f1082, f1080, f946, f950, f954, f958] F → R (.returned (.tuple ⟨[]⟩)) w) :
    Calls Tryd.prog 50 ⟨[ptr b937 0, .agg ⟨[.slice A952 w_936.distances_.lengths_.length c953, .slice A956 w_936.distances_.codes_.length c957]⟩, .agg ⟨[.int .i64 p961.symbol_, .int .i64 p961.bits_, .int .u32 p961.more_]⟩]⟩ w R := by
 refine enter Tryd.func50 rfl Tryd.ntmps50 rfl hS fun a w hS => ?_
 have hM := hm; clear hm
 rw [deflate_writer_part_7ef6.m] at hM
 refine wp_seq <| wp_region_list <| bx ([.slice A952 w_936.distances_.lengths_.length c953, .slice A956 w_936.distances_.codes_.length c957]) hS rfl rfl rfl fun w b962 f963 hB964 hS => bx ([.int .i64 p961.symbol_, .int .i64 p961.bits_, .int .u32 p961.more_]) hS rfl rfl rfl fun w b965 f966 hB967 hS => wpList_nil <| then_n <| wp_seq <| wp_region_list <| st1 hS (mv rfl) rfl fun a w hS => st1 hS (ldbA 1 rfl hB964 rfl ([.slice A952 w_936.distances_.lengths_.length c953, .slice A956 w_936.distances_.codes_.length c957]) rfl rfl Tryd.isAgg47 Tryd.sizeOf47) rfl fun a w hS => st1 hS (fad rfl Tryd.runUnderlying68 rfl Tryd.sizeOf3 rfl) rfl fun a w hS => st1 hS (ldb 0 rfl hB967 rfl rfl Tryd.isAgg3) rfl fun a w hS => s_call hS rfl Tryd.call41 (deflate_writer_symbol_7ef6_c hG K w_936 w_936.distances_ p961.symbol_ b937 f938 A940 c941 f942 A944 c945 f946 A948 c949 f950 A952 c953 f954 A956 c957 f958 hB939 hV943 hV947 hV951 hV955 hV959 (hS.st.part 6 [2, 3, 4, 5, 6, 7, 0, 1] (by kernel_rfl)) (wp_bind hM) (fun at_1059 A1060 c1061 bytes1062 f1063 f1064 w hM h1065 h1066 hst => s_back hS.ev hst.appF rfl fun hS => ?_))
 replace hS : Ss _ _ _ H [f1064, f1063, f946, f950, f954, f958, f966, f963] F _ _ := hS
 refine wpList_nil <| then_n <| draw_begin (vals := [some (ptr b937 0), some (ptr b937 0), some (ptr b937 0), some (ptr b965 2), some (.int .u32 p961.more_), some (ptr b965 1), some (.int .i64 p961.bits_), none]) hS mixed rfl ?_
 intro l w ho hcl hA hst
 refine phq hA hst ho hcl navail nmust 7 [0, 1, 2, 3, 4, 5, 6] rfl rfl rfl rfl rfl (by exact ⟨nR rfl rfl rfl rfl rfl (by exact ovE (mv rfl) rfl), nR rfl rfl rfl rfl rfl (by exact ovE (nck rfl) rfl), nR rfl rfl rfl rfl rfl (by exact ovE (fad rfl Tryd.runUnderlying49 rfl Tryd.sizeOf44 rfl) rfl), nR rfl rfl rfl rfl rfl (by exact ovE (fad rfl Tryd.runUnderlying68 rfl Tryd.sizeOf53 rfl) rfl), nR rfl rfl rfl rfl rfl (by exact ovE (ldb 6 rfl hB967 rfl rfl Tryd.isAgg53) rfl), nR rfl rfl rfl rfl rfl (by exact ovE (fad rfl Tryd.runUnderlying68 rfl Tryd.sizeOf3 rfl) rfl), nR rfl rfl rfl rfl rfl (by exact ovE (ldb 6 rfl hB967 rfl rfl Tryd.isAgg3) rfl), trivial⟩) fun D l a w ho hcl hav hpre hm hE hk hA hst => ?_
 have hS := (Ss.mk hE hst).env2 (e' := [(13, ptr b937 0), (15, .int .u32 p961.more_), (17, .int .i64 p961.bits_)]) ⟨rfl, rfl, rfl, trivial⟩
 refine op_of_nth rfl <| s_call hS rfl Tryd.call23 (bits_Writer_Put_deflate_writer_c hG K (T_deflate_writer.mk (T_bits_Writer.mk (T_bits_place.mk at_1059) bytes1062) w_936.literals_ w_936.distances_) p961.more_ p961.bits_ b937 f1064 A1060 c1061 f1063 A944 c945 f946 A948 c949 f950 A952 c953 f954 A956 c957 f958 h1066 h1065 hV947 hV951 hV955 hV959 (hS.st.part 6 [0, 1, 2, 3, 4, 5, 6, 7] (by kernel_rfl)) (wp_bind hM) (fun x1067 at_1068 A1069 c1070 bytes1071 f1072 f1073 w hM h1074 h1075 hst => s_back hS.ev hst.appF rfl fun hS => ?_))
 replace hS : Ss _ _ _ H [f1073, f1072, f946, f950, f954, f958, f966, f963] F _ _ := hS
 refine wpList_nil (then_n ?_)
 replace hst := hS.st
 obtain ⟨hcl, hmust, hav2, hA⟩ := dn (vals' := [some (ptr b937 0), some (ptr b937 0), some (ptr b937 0), some (ptr b965 2), some (.int .u32 p961.more_), some (ptr b965 1), some (.int .i64 p961.bits_), some (.int .i64 x1067)]) 7 [(2, 7), (4, 7), (6, 7), (1, 2), (3, 4), (5, 6), (0, 1)] hA hcl hav hm hpre hk rfl rfl rfl rfl rfl rfl rfl
 clear hm hav
 refine phqE hA hst ho hcl hmust [] rfl rfl rfl trivial fun a w hS => ?_
 replace hS := hS.env2 (e' := []) trivial
 exact s_end (rs := []) hS rfl rfl (hret at_1068 A1069 c1070 bytes1071 f1072 f1073 w (wp_ok hM) h1074 h1075 (hS.st.pick [0, 1, 2, 3, 4, 5] (by kernel_rfl)))

theorem deflate_writer_tokens_c {H : Imm} {F : List Frag} {w : World} {R : Ending → World → Prop} {kr : (Int × (List Int)) → Prop} {kp : Value → Prop} (hG : Gl H) (K : Nat) (w_668 : T_deflate_writer) (l_692 : List T_api_Token) (b669 : Nat) (f670 : Frag) (A672 : Option Addr) (c673 : Nat) (f674 : Frag) (A676 : Option Addr) (c677 : Nat) (f678 : Frag) (A680 : Option Addr) (c681 : Nat) (f682 : Frag) (A684 : Option Addr) (c685 : Nat) (f686 : Frag) (A688 : Option Addr) (c689 : Nat) (f690 : Frag) (A693 : Option Addr) (c694 : Nat) (hB671 : Blk f670 b669 ([.int .i64 w_668.Writer_.place_.at_, .slice A672 w_668.Writer_.bytes_.length c673, .slice A676 w_668.literals_.lengths_.length c677, .slice A680 w_668.literals_.codes_.length c681, .slice A684 w_668.distances_.lengths_.length c685, .slice A688 w_668.distances_.codes_.length c689]) 49) (hV675 : Vec 5 (ci .u8) 1 A672 w_668.Writer_.bytes_ c673 f674) (hV679 : Vec 3 (ci .i64) 1 A676 w_668.literals_.lengths_ c677 f678) (hV683 : Vec 3 (ci .i64) 1 A680 w_668.literals_.codes_ c681 f682) (hV687 : Vec 3 (ci .i64) 1 A684 w_668.distances_.lengths_ c685 f686) (hV691 : Vec 3 (ci .i64) 1 A688 w_668.distances_.codes_ c689 f690) (hr695 : Rdl H [] F T_api_Token.cells A693 l_692) (hc696 : l_692.length ≤ c694)
    (hS : St w H [f670, f674, f678, f682, f686, f690] F) (hm : (deflate_writer_tokens.m K w_668 l_692).wp kr kp)
    (hret : ∀ (at_1167 : Int) (A1168 : Option Addr) (c1169 : Nat) (bytes1170 : (List Int)) (f1171 : Frag) (f1173 : Frag) (w : World), kr (at_1167, bytes1170) → (Vec 5 (ci .u8) 1 A1168 bytes1170 c1169 f1171) → (Blk f1173 b669 ([.int .i64 at_1167, .slice A1168 bytes1170.length c1169, .slice A676 w_668.literals_.lengths_.length c677, .slice A680 w_668.literals_.codes_.length c681, .slice A684 w_668.distances_.lengths_.length c685, .slice A688 w_668.distances_.codes_.length c689]) 49) → St w H [f1173, f1171, f678, f682, f686, f690] F → R (.returned (.tuple ⟨[]⟩)) w) :
    Calls Tryd.prog 24 ⟨[ptr b669 0, .slice A693 l_692.length c694]⟩ w R := by
 refine enter Tryd.func24 rfl Tryd.ntmps24 rfl hS fun a w hS => ?_
 have hM := hm; clear hm
 rw [deflate_writer_tokens.m] at hM
 refine seq_joinJ (fun a w => ∃ (at_1150 : Int) (A1151 : Option Addr) (c1152 : Nat) (bytes1153 : (List Int)) (f1154 : Frag) (f1156 : Frag), Ss 49 [] [(0, ptr b669 0)] H [f1156, f1154, f678, f682, f686, f690] F a w ∧ (Vec 5 (ci .u8) 1 A1151 bytes1153 c1152 f1154) ∧ (Blk f1156 b669 ([.int .i64 at_1150, .slice A1151 bytes1153.length c1152, .slice A676 w_668.literals_.lengths_.length c677, .slice A680 w_668.literals_.codes_.length c681, .slice A684 w_668.distances_.lengths_.length c685, .slice A688 w_668.distances_.codes_.length c689]) 49) ∧ (deflate_writer_tokens.j2 K w_668 at_1150 bytes1153).wp kr kp) (fun J1158 hJ1158 => ?_) ?_
 ·refine wp_seq ?_
  refine wp_region_list <| st1 hS (mv rfl) rfl fun a w hS => st1 hS (lenV rfl Tryd.runUnderlying25) rfl fun a w hS => st1 hS (mv rfl) rfl fun a w hS => wpList_nil <| then_n <| wp_block <| s_loopJ (fun k1110 a w => ∃ (at_1101 : Int) (A1102 : Option Addr) (c1103 : Nat) (bytes1104 : (List Int)) (f1105 : Frag) (f1107 : Frag) (v1109 : Int), Ss 49 [] [(0, ptr b669 0), (6, .slice A693 l_692.length c694), (7, .int .i64 (l_692.length : Int)), (8, .int .i64 v1109)] H [f1107, f1105, f678, f682, f686, f690] F a w ∧ (Vec 5 (ci .u8) 1 A1102 bytes1104 c1103 f1105) ∧ (Blk f1107 b669 ([.int .i64 at_1101, .slice A1102 bytes1104.length c1103, .slice A676 w_668.literals_.lengths_.length c677, .slice A680 w_668.literals_.codes_.length c681, .slice A684 w_668.distances_.lengths_.length c685, .slice A688 w_668.distances_.codes_.length c689]) 49) ∧ (deflate_writer_tokens.l1 K w_668 l_692 k1110 at_1101 bytes1104 v1109).wp kr kp) K ?_ ?_ ?_
  ·exact ⟨w_668.Writer_.place_.at_, A672, c673, w_668.Writer_.bytes_, f674, f670, (0 : Int), hS.to [0, 1, 2, 3, 4, 5] (by kernel_rfl) ⟨rfl, rfl, rfl, rfl, trivial⟩, hV675, hB671, hM⟩
  ·intro a w hI; obtain ⟨_, _, _, _, _, _, _, _, _, _, hM⟩ := hI; exact wp_fail hM
  ·intro k1110 a w hI J1149 hJ1149
   obtain ⟨at_1101, A1102, c1103, bytes1104, f1105, f1107, v1109, hS, hV1106, hB1108, hM⟩ := hI
   rw [deflate_writer_tokens.l1] at hM
   refine wp_seq <| wp_region_list <| st1 hS (bin rfl rfl rfl) rfl fun a w hS => wpList_nil <| then_n <| wp_seq <| s_cond hS rfl hM (fun hb1111 hM => ?_) (fun hb1111 hM => ?_)
   ·refine wp_skip ?_
    refine then_n <| wp_seq <| wp_block <| wp_seq <| wp_region_list ?_
    obtain ⟨hk1112, hM⟩ := wp_chk hM
    refine st1 hS (ixV rfl rfl Tryd.runUnderlying25 Tryd.sizeOf32 hr695.wk (fun _ => rfl) rfl hk1112) rfl fun a w hS => st1 hS (ldVA rfl hr695.wk (fun _ => rfl) hk1112 Tryd.isAgg32 Tryd.sizeOf32 rfl) rfl fun a w hS => alc ([.int .u8 (0 : Int), .int .i64 (0 : Int), .int .i64 (0 : Int)]) hS Tryd.zeroValue32 rfl rfl fun w b1113 f1114 hB1115 hS => stB 0 ([.int .u8 ((rd l_692 v1109).Lit_), .int .i64 ((rd l_692 v1109).Len_), .int .i64 ((rd l_692 v1109).Dist_)]) ([.int .u8 ((rd l_692 v1109).Lit_), .int .i64 ((rd l_692 v1109).Len_), .int .i64 ((rd l_692 v1109).Dist_)]) hS rfl rfl hB1115 rfl rfl Tryd.sizeOf32 (by simp [Value.oneCell']) (Nat.le_of_ble_eq_true rfl) rfl fun w f1116 hB1117 hS => wpList_nil <| then_n <| wp_seq <| wp_seq <| wp_region_list <| st1 hS (fad rfl Tryd.runUnderlying32 rfl Tryd.sizeOf3 rfl) rfl fun a w hS => st1 hS (ldb 0 rfl hB1117 rfl rfl Tryd.isAgg3) rfl fun a w hS => st1 hS (bin rfl rfl rfl) rfl fun a w hS => wpList_nil <| then_n <| s_cond hS rfl hM (fun hb1118 hM => ?_) (fun hb1118 hM => ?_)
    ·refine wp_seq ?_
     refine draw_begin (vals := [some (ptr b669 0), some (ptr b669 0), some (ptr b669 0), some (ptr b669 2), some (.agg ⟨[.slice A676 w_668.literals_.lengths_.length c677, .slice A680 w_668.literals_.codes_.length c681]⟩), some (ptr b1113 0), some (.int .u8 ((rd l_692 v1109).Lit_)), some (.int .i64 (wr .i64 (rd l_692 v1109).Lit_)), none]) hS mixed rfl ?_
     intro l w ho hcl hA hst
     refine phq hA hst ho hcl navail nmust 8 [0, 1, 2, 3, 4, 5, 6, 7] rfl rfl rfl rfl rfl (by exact ⟨nR rfl rfl rfl rfl rfl (by exact ovE (mv rfl) rfl), nR rfl rfl rfl rfl rfl (by exact ovE (mv rfl) rfl), nR rfl rfl rfl rfl rfl (by exact ovE (nck rfl) rfl), nR rfl rfl rfl rfl rfl (by exact ovE (fad rfl Tryd.runUnderlying49 rfl Tryd.sizeOf47 rfl) rfl), nR rfl rfl rfl rfl rfl (by exact ovE (ldbA 1 rfl hB1108 rfl ([.slice A676 w_668.literals_.lengths_.length c677, .slice A680 w_668.literals_.codes_.length c681]) rfl rfl Tryd.isAgg47 Tryd.sizeOf47) rfl), nR rfl rfl rfl rfl rfl (by exact ovE (fad rfl Tryd.runUnderlying32 rfl Tryd.sizeOf5 rfl) rfl), nR rfl rfl rfl rfl rfl (by exact ovE (ldb 0 rfl hB1117 rfl rfl Tryd.isAgg5) rfl), nR rfl rfl rfl rfl rfl (by exact ovE (cvi rfl Tryd.runUnderlying5 Tryd.runUnderlying3) rfl), trivial⟩) fun D l a w ho hcl hav hpre hm hE hk hA hst => ?_
     have hS := (Ss.mk hE hst).env2 (e' := [(15, ptr b669 0), (19, .agg ⟨[.slice A676 w_668.literals_.lengths_.length c677, .slice A680 w_668.literals_.codes_.length c681]⟩), (22, .int .i64 (wr .i64 (rd l_692 v1109).Lit_))]) ⟨rfl, rfl, rfl, trivial⟩
     refine op_of_nth rfl <| s_call hS rfl Tryd.call41 (deflate_writer_symbol_1279_c hG K (T_deflate_writer.mk (T_bits_Writer.mk (T_bits_place.mk at_1101) bytes1104) w_668.literals_ w_668.distances_) w_668.literals_ (wr .i64 (rd l_692 v1109).Lit_) b669 f1107 A1102 c1103 f1105 A676 c677 f678 A680 c681 f682 A684 c685 f686 A688 c689 f690 hB1108 hV1106 hV679 hV683 hV687 hV691 (hS.st.part 6 [1, 2, 3, 4, 5, 6, 0] (by kernel_rfl)) (wp_bind hM) (fun at_1119 A1120 c1121 bytes1122 f1123 f1124 w hM h1125 h1126 hst => s_back hS.ev hst.appF rfl fun hS => ?_))
     replace hS : Ss _ _ _ H [f1124, f1123, f678, f682, f686, f690, f1116] F _ _ := hS
     refine wpList_nil (then_n ?_)
     replace hst := hS.st
     obtain ⟨hcl, hmust, hav2, hA⟩ := dn (vals' := [some (ptr b669 0), some (ptr b669 0), some (ptr b669 0), some (ptr b669 2), some (.agg ⟨[.slice A676 w_668.literals_.lengths_.length c677, .slice A680 w_668.literals_.codes_.length c681]⟩), some (ptr b1113 0), some (.int .u8 ((rd l_692 v1109).Lit_)), some (.int .i64 (wr .i64 (rd l_692 v1109).Lit_)), some (.tuple ⟨[]⟩)]) 8 [(0, 8), (4, 8), (7, 8), (3, 4), (6, 7), (2, 3), (5, 6), (1, 2)] hA hcl hav hm hpre hk rfl rfl rfl rfl rfl rfl rfl
     clear hm hav
     refine phqE hA hst ho hcl hmust [] rfl rfl rfl trivial fun a w hS => ?_
     replace hS := hS.env2 (e' := [(0, ptr b669 0), (6, .slice A693 l_692.length c694), (7, .int .i64 (l_692.length : Int)), (8, .int .i64 v1109)]) ⟨rfl, rfl, rfl, rfl, trivial⟩
     refine then_n <| wp_exit <| then_ex (blk_same (then_n ?_))
     refine wp_region_list <| st1 hS (bin rfl rfl rfl) rfl fun a w hS => st1 hS (mv rfl) rfl fun a w hS => wpList_nil <| then_n ?_
     exact hJ1149 _ _ ⟨at_1119, A1120, c1121, bytes1122, f1123, f1124, (w64 (v1109 + (1 : Int))), hS.to [0, 1, 2, 3, 4, 5] (by kernel_rfl) ⟨rfl, rfl, rfl, rfl, trivial⟩, h1125, h1126, hM⟩
    ·refine wp_skip ?_
     refine then_n <| wp_seq <| draw_begin (vals := [some (ptr b669 0), some (ptr b669 0), some (ptr b669 0), some (ptr b669 2), some (.agg ⟨[.slice A676 w_668.literals_.lengths_.length c677, .slice A680 w_668.literals_.codes_.length c681]⟩), some (ptr b1113 1), some (.int .i64 ((rd l_692 v1109).Len_)), none, none]) hS mixed rfl ?_
     intro l w ho hcl hA hst
     refine phq hA hst ho hcl navail nmust 7 [0, 1, 2, 3, 4, 5, 6] rfl rfl rfl rfl rfl (by exact ⟨nR rfl rfl rfl rfl rfl (by exact ovE (mv rfl) rfl), nR rfl rfl rfl rfl rfl (by exact ovE (mv rfl) rfl), nR rfl rfl rfl rfl rfl (by exact ovE (nck rfl) rfl), nR rfl rfl rfl rfl rfl (by exact ovE (fad rfl Tryd.runUnderlying49 rfl Tryd.sizeOf47 rfl) rfl), nR rfl rfl rfl rfl rfl (by exact ovE (ldbA 1 rfl hB1108 rfl ([.slice A676 w_668.literals_.lengths_.length c677, .slice A680 w_668.literals_.codes_.length c681]) rfl rfl Tryd.isAgg47 Tryd.sizeOf47) rfl), nR rfl rfl rfl rfl rfl (by exact ovE (fad rfl Tryd.runUnderlying32 rfl Tryd.sizeOf3 rfl) rfl), nR rfl rfl rfl rfl rfl (by exact ovE (ldb 0 rfl hB1117 rfl rfl Tryd.isAgg3) rfl), trivial⟩) fun D l a w ho hcl hav hpre hm hE hk hA hst => ?_
     have hS := (Ss.mk hE hst).env2 (e' := [(30, .int .i64 ((rd l_692 v1109).Len_))]) ⟨rfl, trivial⟩
     refine op_of_nth rfl <| s_call hS rfl Tryd.call35 (deflate_length_c hG K ((rd l_692 v1109).Len_) (hS.st.part 0 [0, 1, 2, 3, 4, 5, 6] (by kernel_rfl)) (wp_bind hM) (fun symbol1127 bits1128 more1129 w hM  hst => s_back hS.ev hst.appF rfl fun hS => ?_))
     replace hS : Ss _ _ _ H [f1116, f1107, f1105, f678, f682, f686, f690] F _ _ := hS
     refine wpList_nil (then_n ?_)
     replace hst := hS.st
     obtain ⟨hcl, hmust, hav2, hA⟩ := dn (vals' := [some (ptr b669 0), some (ptr b669 0), some (ptr b669 0), some (ptr b669 2), some (.agg ⟨[.slice A676 w_668.literals_.lengths_.length c677, .slice A680 w_668.literals_.codes_.length c681]⟩), some (ptr b1113 1), some (.int .i64 ((rd l_692 v1109).Len_)), some (.agg ⟨[.int .i64 symbol1127, .int .i64 bits1128, .int .u32 more1129]⟩), none]) 7 [(6, 7), (5, 6)] hA hcl hav hm hpre hk rfl rfl rfl rfl rfl rfl rfl
     clear hm hav
     refine phq hA hst ho hcl hav2 hmust 8 [0, 1, 2, 3, 4] rfl rfl rfl rfl rfl (by exact ⟨nR rfl rfl rfl rfl rfl (by exact ovE (mv rfl) rfl), nR rfl rfl rfl rfl rfl (by exact ovE (mv rfl) rfl), nR rfl rfl rfl rfl rfl (by exact ovE (nck rfl) rfl), nR rfl rfl rfl rfl rfl (by exact ovE (fad rfl Tryd.runUnderlying49 rfl Tryd.sizeOf47 rfl) rfl), nR rfl rfl rfl rfl rfl (by exact ovE (ldbA 1 rfl hB1108 rfl ([.slice A676 w_668.literals_.lengths_.length c677, .slice A680 w_668.literals_.codes_.length c681]) rfl rfl Tryd.isAgg47 Tryd.sizeOf47) rfl), trivial⟩) fun D l a w ho hcl hav hpre hm hE hk hA hst => ?_
     have hS := (Ss.mk hE hst).env2 (e' := [(24, ptr b669 0), (28, .agg ⟨[.slice A676 w_668.literals_.lengths_.length c677, .slice A680 w_668.literals_.codes_.length c681]⟩), (31, .agg ⟨[.int .i64 symbol1127, .int .i64 bits1128, .int .u32 more1129]⟩)]) ⟨rfl, rfl, rfl, trivial⟩
     refine op_of_nth rfl <| s_call hS rfl Tryd.call50 (deflate_writer_part_1279_c hG K (T_deflate_writer.mk (T_bits_Writer.mk (T_bits_place.mk at_1101) bytes1104) w_668.literals_ w_668.distances_) w_668.literals_ (T_deflate_part.mk symbol1127 bits1128 more1129) b669 f1107 A1102 c1103 f1105 A676 c677 f678 A680 c681 f682 A684 c685 f686 A688 c689 f690 hB1108 hV1106 hV679 hV683 hV687 hV691 (hS.st.part 6 [1, 2, 3, 4, 5, 6, 0] (by kernel_rfl)) (wp_bind hM) (fun at_1130 A1131 c1132 bytes1133 f1134 f1135 w hM h1136 h1137 hst => s_back hS.ev hst.appF rfl fun hS => ?_))
     replace hS : Ss _ _ _ H [f1135, f1134, f678, f682, f686, f690, f1116] F _ _ := hS
     refine wpList_nil (then_n ?_)
     replace hst := hS.st
     obtain ⟨hcl, hmust, hav2, hA⟩ := dn (vals' := [some (ptr b669 0), some (ptr b669 0), some (ptr b669 0), some (ptr b669 2), some (.agg ⟨[.slice A676 w_668.literals_.lengths_.length c677, .slice A680 w_668.literals_.codes_.length c681]⟩), some (ptr b1113 1), some (.int .i64 ((rd l_692 v1109).Len_)), some (.agg ⟨[.int .i64 symbol1127, .int .i64 bits1128, .int .u32 more1129]⟩), some (.tuple ⟨[]⟩)]) 8 [(0, 8), (4, 8), (7, 8), (3, 4), (6, 7), (2, 3), (5, 6), (1, 2)] hA hcl hav hm hpre hk rfl rfl rfl rfl rfl rfl rfl
     clear hm hav
     refine phqE hA hst ho hcl hmust [] rfl rfl rfl trivial fun a w hS => ?_
     replace hS := hS.env2 (e' := [(0, ptr b669 0), (5, ptr b1113 0), (6, .slice A693 l_692.length c694), (7, .int .i64 (l_692.length : Int)), (8, .int .i64 v1109)]) ⟨rfl, rfl, rfl, rfl, rfl, trivial⟩
     refine then_n <| draw_begin (vals := [some (ptr b669 0), some (ptr b669 0), some (ptr b669 0), some (ptr b669 4), some (.agg ⟨[.slice A684 w_668.distances_.lengths_.length c685, .slice A688 w_668.distances_.codes_.length c689]⟩), some (ptr b1113 2), some (.int .i64 ((rd l_692 v1109).Dist_)), none, none]) hS mixed rfl ?_
     intro l w ho hcl hA hst
     refine phq hA hst ho hcl navail nmust 7 [0, 1, 2, 3, 4, 5, 6] rfl rfl rfl rfl rfl (by exact ⟨nR rfl rfl rfl rfl rfl (by exact ovE (mv rfl) rfl), nR rfl rfl rfl rfl rfl (by exact ovE (mv rfl) rfl), nR rfl rfl rfl rfl rfl (by exact ovE (nck rfl) rfl), nR rfl rfl rfl rfl rfl (by exact ovE (fad rfl Tryd.runUnderlying49 rfl Tryd.sizeOf47 rfl) rfl), nR rfl rfl rfl rfl rfl (by exact ovE (ldbA 0 rfl h1137 rfl ([.slice A684 w_668.distances_.lengths_.length c685, .slice A688 w_668.distances_.codes_.length c689]) rfl rfl Tryd.isAgg47 Tryd.sizeOf47) rfl), nR rfl rfl rfl rfl rfl (by exact ovE (fad rfl Tryd.runUnderlying32 rfl Tryd.sizeOf3 rfl) rfl), nR rfl rfl rfl rfl rfl (by exact ovE (ldb 6 rfl hB1117 rfl rfl Tryd.isAgg3) rfl), trivial⟩) fun D l a w ho hcl hav hpre hm hE hk hA hst => ?_
     have hS := (Ss.mk hE hst).env2 (e' := [(39, .int .i64 ((rd l_692 v1109).Dist_))]) ⟨rfl, trivial⟩
     refine op_of_nth rfl <| s_call hS rfl Tryd.call36 (deflate_distance_c hG K ((rd l_692 v1109).Dist_) (hS.st.part 0 [0, 1, 2, 3, 4, 5, 6] (by kernel_rfl)) (wp_bind hM) (fun symbol1138 bits1139 more1140 w hM  hst => s_back hS.ev hst.appF rfl fun hS => ?_))
     replace hS : Ss _ _ _ H [f1135, f1134, f678, f682, f686, f690, f1116] F _ _ := hS
     refine wpList_nil (then_n ?_)
     replace hst := hS.st
     obtain ⟨hcl, hmust, hav2, hA⟩ := dn (vals' := [some (ptr b669 0), some (ptr b669 0), some (ptr b669 0), some (ptr b669 4), some (.agg ⟨[.slice A684 w_668.distances_.lengths_.length c685, .slice A688 w_668.distances_.codes_.length c689]⟩), some (ptr b1113 2), some (.int .i64 ((rd l_692 v1109).Dist_)), some (.agg ⟨[.int .i64 symbol1138, .int .i64 bits1139, .int .u32 more1140]⟩), none]) 7 [(6, 7), (5, 6)] hA hcl hav hm hpre hk rfl rfl rfl rfl rfl rfl rfl
     clear hm hav
     refine phq hA hst ho hcl hav2 hmust 8 [0, 1, 2, 3, 4] rfl rfl rfl rfl rfl (by exact ⟨nR rfl rfl rfl rfl rfl (by exact ovE (mv rfl) rfl), nR rfl rfl rfl rfl rfl (by exact ovE (mv rfl) rfl), nR rfl rfl rfl rfl rfl (by exact ovE (nck rfl) rfl), nR rfl rfl rfl rfl rfl (by exact ovE (fad rfl Tryd.runUnderlying49 rfl Tryd.sizeOf47 rfl) rfl), nR rfl rfl rfl rfl rfl (by exact ovE (ldbA 0 rfl h1137 rfl ([.slice A684 w_668.distances_.lengths_.length c685, .slice A688 w_668.distances_.codes_.length c689]) rfl rfl Tryd.isAgg47 Tryd.sizeOf47) rfl), trivial⟩) fun D l a w ho hcl hav hpre hm hE hk hA hst => ?_
     have hS := (Ss.mk hE hst).env2 (e' := [(33, ptr b669 0), (37, .agg ⟨[.slice A684 w_668.distances_.lengths_.length c685, .slice A688 w_668.distances_.codes_.length c689]⟩), (40, .agg ⟨[.int .i64 symbol1138, .int .i64 bits1139, .int .u32 more1140]⟩)]) ⟨rfl, rfl, rfl, trivial⟩
     refine op_of_nth rfl <| s_call hS rfl Tryd.call50 (deflate_writer_part_7ef6_c hG K (T_deflate_writer.mk (T_bits_Writer.mk (T_bits_place.mk at_1130) bytes1133) w_668.literals_ w_668.distances_) w_668.distances_ (T_deflate_part.mk symbol1138 bits1139 more1140) b669 f1135 A1131 c1132 f1134 A676 c677 f678 A680 c681 f682 A684 c685 f686 A688 c689 f690 h1137 h1136 hV679 hV683 hV687 hV691 (hS.st.part 6 [0, 1, 2, 3, 4, 5, 6] (by kernel_rfl)) (wp_bind hM) (fun at_1141 A1142 c1143 bytes1144 f1145 f1146 w hM h1147 h1148 hst => s_back hS.ev hst.appF rfl fun hS => ?_))
     replace hS : Ss _ _ _ H [f1146, f1145, f678, f682, f686, f690, f1116] F _ _ := hS
     refine wpList_nil (then_n ?_)
     replace hst := hS.st
     obtain ⟨hcl, hmust, hav2, hA⟩ := dn (vals' := [some (ptr b669 0), some (ptr b669 0), some (ptr b669 0), some (ptr b669 4), some (.agg ⟨[.slice A684 w_668.distances_.lengths_.length c685, .slice A688 w_668.distances_.codes_.length c689]⟩), some (ptr b1113 2), some (.int .i64 ((rd l_692 v1109).Dist_)), some (.agg ⟨[.int .i64 symbol1138, .int .i64 bits1139, .int .u32 more1140]⟩), some (.tuple ⟨[]⟩)]) 8 [(0, 8), (4, 8), (7, 8), (3, 4), (6, 7), (2, 3), (5, 6), (1, 2)] hA hcl hav hm hpre hk rfl rfl rfl rfl rfl rfl rfl
     clear hm hav
     refine phqE hA hst ho hcl hmust [] rfl rfl rfl trivial fun a w hS => ?_
     replace hS := hS.env2 (e' := [(0, ptr b669 0), (6, .slice A693 l_692.length c694), (7, .int .i64 (l_692.length : Int)), (8, .int .i64 v1109)]) ⟨rfl, rfl, rfl, rfl, trivial⟩
     refine blk_n (then_n ?_)
     refine wp_region_list <| st1 hS (bin rfl rfl rfl) rfl fun a w hS => st1 hS (mv rfl) rfl fun a w hS => wpList_nil <| then_n ?_
     exact hJ1149 _ _ ⟨at_1141, A1142, c1143, bytes1144, f1145, f1146, (w64 (v1109 + (1 : Int))), hS.to [0, 1, 2, 3, 4, 5] (by kernel_rfl) ⟨rfl, rfl, rfl, rfl, trivial⟩, h1147, h1148, hM⟩
   ·refine wp_exit ?_
    refine then_ex (then_ex (blk_same (then_n ?_)))
    exact hJ1158 _ _ ⟨at_1101, A1102, c1103, bytes1104, f1105, f1107, hS.to [0, 1, 2, 3, 4, 5] (by kernel_rfl) ⟨rfl, trivial⟩, hV1106, hB1108, hM⟩
 ·intro a w hI
  obtain ⟨at_1150, A1151, c1152, bytes1153, f1154, f1156, hS, hV1155, hB1157, hM⟩ := hI
  rw [deflate_writer_tokens.j2] at hM
  refine wp_region_list <| st1 hS (mv rfl) rfl fun a w hS => st1 hS (mv rfl) rfl fun a w hS => st1 hS (nck rfl) rfl fun a w hS => st1 hS (fad rfl Tryd.runUnderlying49 rfl Tryd.sizeOf47 rfl) rfl fun a w hS => st1 hS (ldbA 0 rfl hB1157 rfl ([.slice A676 w_668.literals_.lengths_.length c677, .slice A680 w_668.literals_.codes_.length c681]) rfl rfl Tryd.isAgg47 Tryd.sizeOf47) rfl fun a w hS => s_call hS rfl Tryd.call41 (deflate_writer_symbol_1279_c hG K (T_deflate_writer.mk (T_bits_Writer.mk (T_bits_place.mk at_1150) bytes1153) w_668.literals_ w_668.distances_) w_668.literals_ (256 : Int) b669 f1156 A1151 c1152 f1154 A676 c677 f678 A680 c681 f682 A684 c685 f686 A688 c689 f690 hB1157 hV1155 hV679 hV683 hV687 hV691 (hS.st.part 6 [0, 1, 2, 3, 4, 5] (by kernel_rfl)) (wp_bind hM) (fun at_1159 A1160 c1161 bytes1162 f1163 f1164 w hM h1165 h1166 hst => s_back hS.ev hst.appF rfl fun hS => ?_))
  replace hS : Ss _ _ _ H [f1164, f1163, f678, f682, f686, f690] F _ _ := hS
  refine wpList_nil ?_
  exact s_end (rs := []) hS rfl rfl (hret at_1159 A1160 c1161 bytes1162 f1163 f1164 w (wp_ok hM) h1165 h1166 (hS.st.pick [0, 1, 2, 3, 4, 5] (by kernel_rfl)))

theorem bits_Writer_String_deflate_writer_c {H : Imm} {F : List Frag} {w : World} {R : Ending → World → Prop} {kr : (List UInt8) → Prop} {kp : Value → Prop} (hG : Gl H) (K : Nat) (w_1183 : T_deflate_writer) (b1184 : Nat) (f1185 : Frag) (A1187 : Option Addr) (c1188 : Nat) (f1189 : Frag) (A1191 : Option Addr) (c1192 : Nat) (f1193 : Frag) (A1195 : Option Addr) (c1196 : Nat) (f1197 : Frag) (A1199 : Option Addr) (c1200 : Nat) (f1201 : Frag) (A1203 : Option Addr) (c1204 : Nat) (f1205 : Frag) (hB1186 : Blk f1185 b1184 ([.int .i64 w_1183.Writer_.place_.at_, .slice A1187 w_1183.Writer_.bytes_.length c1188, .slice A1191 w_1183.literals_.lengths_.length c1192, .slice A1195 w_1183.literals_.codes_.length c1196, .slice A1199 w_1183.distances_.lengths_.length c1200, .slice A1203 w_1183.distances_.codes_.length c1204]) 49) (hV1190 : Vec 5 (ci .u8) 1 A1187 w_1183.Writer_.bytes_ c1188 f1189) (hV1194 : Vec 3 (ci .i64) 1 A1191 w_1183.literals_.lengths_ c1192 f1193) (hV1198 : Vec 3 (ci .i64) 1 A1195 w_1183.literals_.codes_ c1196 f1197) (hV1202 : Vec 3 (ci .i64) 1 A1199 w_1183.distances_.lengths_ c1200 f1201) (hV1206 : Vec 3 (ci .i64) 1 A1203 w_1183.distances_.codes_ c1204 f1205)
    (hS : St w H [f1185, f1189, f1193, f1197, f1201, f1205] F) (hm : (bits_Writer_String_deflate_writer.m K w_1183).wp kr kp)
    (hret : ∀ (x1208 : List UInt8) (w : World), kr x1208 → St w H [f1185, f1189, f1193, f1197, f1201, f1205] F → R (.returned (str x1208)) w) :
    Calls Tryd.prog 25 ⟨[ptr b1184 0]⟩ w R := by
 refine enter Tryd.func25 rfl Tryd.ntmps25 rfl hS fun a w hS => ?_
 have hM := hm; clear hm
 rw [bits_Writer_String_deflate_writer.m] at hM
 refine wp_seq <| wp_region_list <| st1 hS (asg rfl) rfl fun a w hS => wpList_nil <| then_n <| wp_seq <| wp_seq <| wp_region_list <| st1 hS (mv rfl) rfl fun a w hS => st1 hS (eqNil rfl rfl Tryd.runUnderlying103) rfl fun a w hS => wpList_nil <| then_n <| s_condF hS rfl <| wp_skip <| then_n <| wp_seq <| wp_region_list <| st1 hS (mv rfl) rfl fun a w hS => st1 hS (nck rfl) rfl fun a w hS => st1 hS (fad rfl Tryd.runUnderlying44 rfl Tryd.sizeOf38 rfl) rfl fun a w hS => st1 hS (ldb 0 rfl hB1186 rfl rfl Tryd.isAgg38) rfl fun a w hS => st1 hS (cbs rfl Tryd.runUnderlying38 Tryd.runUnderlying5 Tryd.runUnderlying9 (hV1190.rd (i := 1) rfl)) rfl fun a w hS => st1x (v := str) (x0 := (w_1183.Writer_.bytes_.map tob)) hS (asg rfl) rfl fun v1207 a w hz hS => ?_
 have hM := lt_to hz hM; clear hz
 refine wpList_nil <| then_n <| wp_ret ?_
 exact s_ret (rs := [2]) hS rfl rfl (hret v1207 w (wp_ok hM) (hS.st.pick [0, 1, 2, 3, 4, 5] (by kernel_rfl)))

theorem deflate_Fixed_c {H : Imm} {F : List Frag} {w : World} {R : Ending → World → Prop} {kr : ((List UInt8) × Int) → Prop} {kp : Value → Prop} (hG : Gl H) (K : Nat) (l_11 : List T_api_Token) (A12 : Option Addr) (c13 : Nat) (hr14 : Rdl H [] F T_api_Token.cells A12 l_11) (hc15 : l_11.length ≤ c13)
    (hS : St w H [] F) (hm : (deflate_Fixed.m K l_11).wp kr kp)
    (hret : ∀ (x1210 : List UInt8) (x1211 : Int) (w : World), kr (x1210, x1211) → St w H [] F → R (.returned (.tuple ⟨[str x1210, .int .i64 x1211]⟩)) w) :
    Calls Tryd.prog 12 ⟨[.slice A12 l_11.length c13]⟩ w R := by
 refine enter Tryd.func12 rfl Tryd.ntmps12 rfl hS fun a w hS => ?_
 have hM := hm; clear hm
 rw [deflate_Fixed.m] at hM
 refine wp_seq <| wp_region_list <| st1 hS (asg rfl) rfl fun a w hS => st1 hS (asg rfl) rfl fun a w hS => wpList_nil <| then_n <| wp_seq <| wp_seq <| wp_region_list <| st1 hS (mv rfl) rfl fun a w hS => s_call hS rfl Tryd.call21 (deflate_fine_c hG K l_11 A12 c13 (hr14.app _) hc15 (hS.st.part 0 [] (by kernel_rfl)) (wp_bind hM) (fun x85 w hM  hst => s_back hS.ev hst.appF rfl fun hS => ?_))
 replace hS : Ss _ _ _ H [] F _ _ := hS
 refine st1 hS (un rfl rfl) rfl fun a w hS => wpList_nil <| then_n <| s_cond hS rfl hM (fun hb86 hM => ?_) (fun hb86 hM => ?_)
 ·refine wp_seq ?_
  refine wp_region_list <| st1 hS (asg rfl) rfl fun a w hS => st1 hS (asg rfl) rfl fun a w hS => wpList_nil <| then_n <| wp_ret <| then_ret ?_
  exact s_ret (rs := [2, 3]) hS rfl rfl (hret ([] : List UInt8) (1 : Int) w (wp_ok hM) (hS.st.pick [] (by kernel_rfl)))
 ·refine wp_skip ?_
  refine then_n <| wp_seq <| wp_region_list <| st1 hS (bld ([.int .i64 (0 : Int), .slice none 0 0, .slice none 0 0, .slice none 0 0, .slice none 0 0, .slice none 0 0]) [(0, 2), (2, 2), (4, 2)] Tryd.zeroValue49 Tryd.runUnderlying49 (by intro w; simp [Tryd.sizeOf44, Tryd.sizeOf47]) rfl rfl) rfl fun a w hS => bx ([.int .i64 (0 : Int), .slice none 0 0, .slice none 0 0, .slice none 0 0, .slice none 0 0, .slice none 0 0]) hS rfl rfl rfl fun w b87 f88 hB89 hS => ?_
  obtain ⟨f90, hV91, hS⟩ := hS.nilV 5 (ci .u8) 1
  obtain ⟨f92, hV93, hS⟩ := hS.nilV 3 (ci .i64) 1
  obtain ⟨f94, hV95, hS⟩ := hS.nilV 3 (ci .i64) 1
  obtain ⟨f96, hV97, hS⟩ := hS.nilV 3 (ci .i64) 1
  obtain ⟨f98, hV99, hS⟩ := hS.nilV 3 (ci .i64) 1
  refine st1 hS (asg rfl) rfl fun a w hS => wpList_nil <| then_n <| wp_seq <| wp_region_list <| st1 hS (mv rfl) rfl fun a w hS => st1 hS (mv rfl) rfl fun a w hS => s_call hS rfl Tryd.call22 (deflate_fixedCodes_c hG K  (hS.st.part 0 [0, 1, 2, 3, 4, 5] (by kernel_rfl)) (wp_bind hM) (fun A495 c496 lengths497 f498 A499 c500 codes501 f502 A503 c504 lengths505 f506 A507 c508 codes509 f510 w hM h511 h512 h513 h514 hst => s_back hS.ev hst.appF rfl fun hS => ?_))
  replace hS : Ss _ _ _ H [f498, f502, f506, f510, f98, f96, f94, f92, f90, f88] F _ _ := hS
  refine st1 hS (mv rfl) rfl fun a w hS => st1 hS (ex rfl rfl) rfl fun a w hS => st1 hS (ex rfl rfl) rfl fun a w hS => st1 hS (nck rfl) rfl fun a w hS => st1 hS (fad rfl Tryd.runUnderlying49 rfl Tryd.sizeOf47 rfl) rfl fun a w hS => stB 9 ([.slice A495 lengths497.length c496, .slice A499 codes501.length c500]) ([.int .i64 (0 : Int), .slice none ([] : List Int).length (0), .slice A495 lengths497.length c496, .slice A499 codes501.length c500, .slice none ([] : List Int).length (0), .slice none ([] : List Int).length (0)]) hS rfl rfl hB89 rfl rfl Tryd.sizeOf47 (by simp [Value.oneCell']) (Nat.le_of_ble_eq_true rfl) rfl fun w f515 hB516 hS => st1 hS (nck rfl) rfl fun a w hS => st1 hS (fad rfl Tryd.runUnderlying49 rfl Tryd.sizeOf47 rfl) rfl fun a w hS => stB 9 ([.slice A503 lengths505.length c504, .slice A507 codes509.length c508]) ([.int .i64 (0 : Int), .slice none ([] : List Int).length (0), .slice A495 lengths497.length c496, .slice A499 codes501.length c500, .slice A503 lengths505.length c504, .slice A507 codes509.length c508]) hS rfl rfl hB516 rfl rfl Tryd.sizeOf47 (by simp [Value.oneCell']) (Nat.le_of_ble_eq_true rfl) rfl fun w f517 hB518 hS => wpList_nil <| then_n <| wp_seq <| wp_region_list <| st1 hS (mv rfl) rfl fun a w hS => st1 hS (nck rfl) rfl fun a w hS => st1 hS (fad rfl Tryd.runUnderlying49 rfl Tryd.sizeOf44 rfl) rfl fun a w hS => s_call hS rfl Tryd.call23 (bits_Writer_Put_deflate_writer_c hG K (T_deflate_writer.mk (T_bits_Writer.mk (T_bits_place.mk (0 : Int)) ([] : List Int)) (T_deflate_code.mk lengths497 codes501) (T_deflate_code.mk lengths505 codes509)) (3 : Int) (3 : Int) b87 f517 none (0) f90 A495 c496 f498 A499 c500 f502 A503 c504 f506 A507 c508 f510 hB518 hV91 h511 h512 h513 h514 (hS.st.part 6 [9, 8, 0, 1, 2, 3, 4, 5, 6, 7] (by kernel_rfl)) (wp_bind hM) (fun x659 at_660 A661 c662 bytes663 f664 f665 w hM h666 h667 hst => s_back hS.ev hst.appF rfl fun hS => ?_))
  replace hS : Ss _ _ _ H [f665, f664, f498, f502, f506, f510, f98, f96, f94, f92] F _ _ := hS
  refine wpList_nil <| then_n <| wp_seq <| wp_region_list <| st1 hS (mv rfl) rfl fun a w hS => st1 hS (mv rfl) rfl fun a w hS => s_call hS rfl Tryd.call24 (deflate_writer_tokens_c hG K (T_deflate_writer.mk (T_bits_Writer.mk (T_bits_place.mk at_660) bytes663) (T_deflate_code.mk lengths497 codes501) (T_deflate_code.mk lengths505 codes509)) l_11 b87 f665 A661 c662 f664 A495 c496 f498 A499 c500 f502 A503 c504 f506 A507 c508 f510 A12 c13 h667 h666 h511 h512 h513 h514 (hr14.app _) hc15 (hS.st.part 6 [0, 1, 2, 3, 4, 5, 6, 7, 8, 9] (by kernel_rfl)) (wp_bind hM) (fun at_1175 A1176 c1177 bytes1178 f1179 f1180 w hM h1181 h1182 hst => s_back hS.ev hst.appF rfl fun hS => ?_))
  replace hS : Ss _ _ _ H [f1180, f1179, f498, f502, f506, f510, f98, f96, f94, f92] F _ _ := hS
  refine wpList_nil <| then_n <| wp_seq <| wp_region_list <| st1 hS (mv rfl) rfl fun a w hS => st1 hS (nck rfl) rfl fun a w hS => st1 hS (fad rfl Tryd.runUnderlying49 rfl Tryd.sizeOf44 rfl) rfl fun a w hS => s_call hS rfl Tryd.call25 (bits_Writer_String_deflate_writer_c hG K (T_deflate_writer.mk (T_bits_Writer.mk (T_bits_place.mk at_1175) bytes1178) (T_deflate_code.mk lengths497 codes501) (T_deflate_code.mk lengths505 codes509)) b87 f1180 A1176 c1177 f1179 A495 c496 f498 A499 c500 f502 A503 c504 f506 A507 c508 f510 h1182 h1181 h511 h512 h513 h514 (hS.st.part 6 [0, 1, 2, 3, 4, 5, 6, 7, 8, 9] (by kernel_rfl)) (wp_bind hM) (fun x1209 w hM  hst => s_back hS.ev hst.appF rfl fun hS => ?_))
  replace hS : Ss _ _ _ H [f1180, f1179, f498, f502, f506, f510, f98, f96, f94, f92] F _ _ := hS
  refine st1 hS (asg rfl) rfl fun a w hS => st1 hS (asg rfl) rfl fun a w hS => wpList_nil <| then_n <| wp_ret ?_
  exact s_ret (rs := [2, 3]) hS rfl rfl (hret x1209 (0 : Int) w (wp_ok hM) (hS.st.pick [] (by kernel_rfl)))

theorem huff_Lengths_1_c {H : Imm} {F : List Frag} {w : World} {R : Ending → World → Prop} {kr : Bool → Prop} {kp : Value → Prop} (hG : Gl H) (K : Nat) (n_1435 : Int)
    (hS : St w H [] F) (hm : (huff_Lengths_1.m K n_1435).wp kr kp)
    (hret : ∀ (x1437 : Bool) (w : World), kr x1437 → St w H [] F → R (.returned (.bool x1437)) w) :
    Calls Tryd.prog 55 ⟨[.int .i64 n_1435]⟩ w R := by
 refine enter Tryd.func55 rfl Tryd.ntmps55 rfl hS fun a w hS => ?_
 have hM := hm; clear hm
 rw [huff_Lengths_1.m] at hM
 refine wp_seq <| wp_region_list <| st1 hS (asg rfl) rfl fun a w hS => wpList_nil <| then_n <| wp_seq <| wp_region_list <| st1 hS (mv rfl) rfl fun a w hS => st1 hS (bin rfl rfl rfl) rfl fun a w hS => st1 hS (mv rfl) rfl fun a w hS => g_op 2 false 5 (b := (decide (n_1435 < (0 : Int)))) (r := (decide (n_1435 > (1099511627776 : Int)))) hS rfl rfl rfl rfl rfl rfl rfl (fun hb a w hS K hK => ?_) rfl fun a w hS => ?_
 ·refine st1g hS rfl rfl rfl hb (mv rfl) rfl fun a w hS => ?_
  refine st1g hS rfl rfl rfl hb (bin rfl rfl rfl) rfl fun a w hS => ?_
  exact wpList_nil (hK _ _ (hS.up 2 rfl rfl))
 refine st1x (v := Value.bool) (x0 := ((decide (n_1435 < (0 : Int))) || (decide (n_1435 > (1099511627776 : Int))))) hS (asg rfl) rfl fun v1436 a w hz hS => ?_
 have hM := lt_to hz hM; clear hz
 refine wpList_nil <| then_n <| wp_ret ?_
 exact s_ret (rs := [2]) hS rfl rfl (hret v1436 w (wp_ok hM) (hS.st.pick [] (by kernel_rfl)))

theorem slices_IndexFunc___int_int__5d67_c {H : Imm} {F : List Frag} {w : World} {R : Ending → World → Prop} {kr : Int → Prop} {kp : Value → Prop} (hG : Gl H) (K : Nat) (s1426 : List Int) (A1427 : Option Addr) (c1428 : Nat) (hr1429 : Rdl H [] F (ci .i64) A1427 s1426) (hc1430 : s1426.length ≤ c1428)
    (hS : St w H [] F) (hm : (slices_IndexFunc___int_int__5d67.m K s1426).wp kr kp)
    (hret : ∀ (x1441 : Int) (w : World), kr x1441 → St w H [] F → R (.returned (.int .i64 x1441)) w) :
    Calls Tryd.prog 80 ⟨[.slice A1427 s1426.length c1428, fnv 55 [] []]⟩ w R := by
 refine enter Tryd.func80 rfl Tryd.ntmps80 rfl hS fun a w hS => ?_
 have hM := hm; clear hm
 rw [slices_IndexFunc___int_int__5d67.m] at hM
 refine wp_seq <| wp_region_list <| st1 hS (asg rfl) rfl fun a w hS => wpList_nil <| then_n <| wp_seq <| wp_seq <| wp_region_list <| st1 hS (mv rfl) rfl fun a w hS => st1 hS (lenV rfl Tryd.runUnderlying45) rfl fun a w hS => st1 hS (mv rfl) rfl fun a w hS => wpList_nil <| then_n <| wp_block <| s_loopJ (fun k1432 a w => ∃ (v1431 : Int), Ss 19 [] [(0, .slice A1427 s1426.length c1428), (1, fnv 55 [] []), (7, .int .i64 (s1426.length : Int)), (8, .int .i64 v1431)] H [] F a w ∧ (slices_IndexFunc___int_int__5d67.l1 K s1426 k1432 v1431).wp kr kp) K ?_ ?_ ?_
 ·exact ⟨(0 : Int), hS.to [] (by kernel_rfl) ⟨rfl, rfl, rfl, rfl, trivial⟩, hM⟩
 ·intro a w hI; obtain ⟨_, _, hM⟩ := hI; exact wp_fail hM
 ·intro k1432 a w hI J1440 hJ1440
  obtain ⟨v1431, hS, hM⟩ := hI
  rw [slices_IndexFunc___int_int__5d67.l1] at hM
  refine wp_seq <| wp_region_list <| st1 hS (bin rfl rfl rfl) rfl fun a w hS => wpList_nil <| then_n <| wp_seq <| s_cond hS rfl hM (fun hb1433 hM => ?_) (fun hb1433 hM => ?_)
  ·refine wp_skip ?_
   refine then_n <| wp_seq <| wp_block <| wp_seq <| wp_region_list <| st1 hS (mv rfl) rfl fun a w hS => st1 hS (asg rfl) rfl fun a w hS => wpList_nil <| then_n <| wp_seq <| wp_region_list <| st1 hS (mv rfl) rfl fun a w hS => st1 hS (mv rfl) rfl fun a w hS => st1 hS (mv rfl) rfl fun a w hS => ?_
   obtain ⟨hk1434, hM⟩ := wp_chk hM
   refine st1 hS (ixV rfl rfl Tryd.runUnderlying45 Tryd.sizeOf3 hr1429.wk (fun _ => rfl) rfl hk1434) rfl fun a w hS => st1 hS (ldV0 rfl hr1429.wk (fun _ => rfl) hk1434 rfl Tryd.isAgg3) rfl fun a w hS => s_callV hS rfl rfl Tryd.call55 (huff_Lengths_1_c hG K (rd s1426 v1431) (hS.st.part 0 [] (by kernel_rfl)) (wp_bind hM) (fun x1438 w hM  hst => s_back hS.ev hst.appF rfl fun hS => ?_))
   replace hS : Ss _ _ _ H [] F _ _ := hS
   refine wpList_nil <| then_n <| s_cond hS rfl hM (fun hb1439 hM => ?_) (fun hb1439 hM => ?_)
   ·refine wp_seq ?_
    refine wp_region_list <| st1 hS (mv rfl) rfl fun a w hS => st1 hS (asg rfl) rfl fun a w hS => wpList_nil <| then_n <| wp_ret <| blk_ret (then_ret (then_ret (blk_ret (then_ret ?_))))
    exact s_ret (rs := [4]) hS rfl rfl (hret v1431 w (wp_ok hM) (hS.st.pick [] (by kernel_rfl)))
   ·refine wp_skip ?_
    refine blk_n (then_n ?_)
    refine wp_region_list <| st1 hS (bin rfl rfl rfl) rfl fun a w hS => st1 hS (mv rfl) rfl fun a w hS => wpList_nil <| then_n ?_
    exact hJ1440 _ _ ⟨(w64 (v1431 + (1 : Int))), hS.to [] (by kernel_rfl) ⟨rfl, rfl, rfl, rfl, trivial⟩, hM⟩
  ·refine wp_exit ?_
   refine then_ex (then_ex (blk_same (then_n ?_)))
   refine wp_seq <| wp_region_list <| st1 hS (asg rfl) rfl fun a w hS => wpList_nil <| then_n <| wp_ret ?_
   exact s_ret (rs := [4]) hS rfl rfl (hret (-1 : Int) w (wp_ok hM) (hS.st.pick [] (by kernel_rfl)))

theorem slices_ContainsFunc___int_int__5d67_c {H : Imm} {F : List Frag} {w : World} {R : Ending → World → Prop} {kr : Bool → Prop} {kp : Value → Prop} (hG : Gl H) (K : Nat) (s1421 : List Int) (A1422 : Option Addr) (c1423 : Nat) (hr1424 : Rdl H [] F (ci .i64) A1422 s1421) (hc1425 : s1421.length ≤ c1423)
    (hS : St w H [] F) (hm : (slices_ContainsFunc___int_int__5d67.m K s1421).wp kr kp)
    (hret : ∀ (x1444 : Bool) (w : World), kr x1444 → St w H [] F → R (.returned (.bool x1444)) w) :
    Calls Tryd.prog 54 ⟨[.slice A1422 s1421.length c1423, fnv 55 [] []]⟩ w R := by
 refine enter Tryd.func54 rfl Tryd.ntmps54 rfl hS fun a w hS => ?_
 have hM := hm; clear hm
 rw [slices_ContainsFunc___int_int__5d67.m] at hM
 refine wp_seq <| wp_region_list <| st1 hS (asg rfl) rfl fun a w hS => wpList_nil <| then_n <| wp_seq <| wp_region_list <| st1 hS (mv rfl) rfl fun a w hS => st1 hS (mv rfl) rfl fun a w hS => s_call hS rfl Tryd.call80 (slices_IndexFunc___int_int__5d67_c hG K s1421 A1422 c1423 (hr1424.app _) hc1425 (hS.st.part 0 [] (by kernel_rfl)) (wp_bind hM) (fun x1442 w hM  hst => s_back hS.ev hst.appF rfl fun hS => ?_))
 replace hS : Ss _ _ _ H [] F _ _ := hS
 refine st1 hS (bin rfl rfl rfl) rfl fun a w hS => st1x (v := Value.bool) (x0 := (decide (x1442 ≥ (0 : Int)))) hS (asg rfl) rfl fun v1443 a w hz hS => ?_
 have hM := lt_to hz hM; clear hz
 refine wpList_nil <| then_n <| wp_ret ?_
 exact s_ret (rs := [4]) hS rfl rfl (hret v1443 w (wp_ok hM) (hS.st.pick [] (by kernel_rfl)))

def R_huff_packet (p : Frag) (x : T_huff_packet) (vs : List Value) : Prop :=
  ∃ (A0 : Option Addr) (c0 : Nat), vs = [.int .i64 x.often_, .slice A0 x.symbols_.length c0] ∧ Pl p (ci .i64) A0 x.symbols_ ∧ x.symbols_.length ≤ c0
theorem R_huff_packet.mono {p p' : Frag} (hs : ∀ q ∈ p, q ∈ p') {x : T_huff_packet} {vs : List Value} (h : R_huff_packet p x vs) : R_huff_packet p' x vs := by
  obtain ⟨A0, c0, h0, h1, h2⟩ := h
  exact ⟨A0, c0, h0, h1.mono hs, h2⟩

theorem cmp_isNaN_int__c {H : Imm} {F : List Frag} {w : World} {R : Ending → World → Prop} {kr : Bool → Prop} {kp : Value → Prop} (hG : Gl H) (K : Nat) (x1644 : Int)
    (hS : St w H [] F) (hm : (cmp_isNaN_int_.m K x1644).wp kr kp)
    (hret : ∀ (x1646 : Bool) (w : World), kr x1646 → St w H [] F → R (.returned (.bool x1646)) w) :
    Calls Tryd.prog 82 ⟨[.int .i64 x1644]⟩ w R := by
 refine enter Tryd.func82 rfl Tryd.ntmps82 rfl hS fun a w hS => ?_
 have hM := hm; clear hm
 rw [cmp_isNaN_int_.m] at hM
 refine wp_seq <| wp_region_list <| st1 hS (asg rfl) rfl fun a w hS => wpList_nil <| then_n <| wp_seq <| wp_region_list <| st1 hS (mv rfl) rfl fun a w hS => st1 hS (mv rfl) rfl fun a w hS => st1 hS (bin rfl rfl rfl) rfl fun a w hS => st1x (v := Value.bool) (x0 := (x1644 != x1644)) hS (asg rfl) rfl fun v1645 a w hz hS => ?_
 have hM := lt_to hz hM; clear hz
 refine wpList_nil <| then_n <| wp_ret ?_
 exact s_ret (rs := [2]) hS rfl rfl (hret v1645 w (wp_ok hM) (hS.st.pick [] (by kernel_rfl)))

theorem cmp_Compare_int__c {H : Imm} {F : List Frag} {w : World} {R : Ending → World → Prop} {kr : Int → Prop} {kp : Value → Prop} (hG : Gl H) (K : Nat) (x1642 : Int) (y1643 : Int)
    (hS : St w H [] F) (hm : (cmp_Compare_int_.m K x1642 y1643).wp kr kp)
    (hret : ∀ (x1654 : Int) (w : World), kr x1654 → St w H [] F → R (.returned (.int .i64 x1654)) w) :
    Calls Tryd.prog 58 ⟨[.int .i64 x1642, .int .i64 y1643]⟩ w R := by
 refine enter Tryd.func58 rfl Tryd.ntmps58 rfl hS fun a w hS => ?_
 have hM := hm; clear hm
 rw [cmp_Compare_int_.m] at hM
 refine wp_seq <| wp_region_list <| st1 hS (asg rfl) rfl fun a w hS => wpList_nil <| then_n <| wp_seq <| wp_region_list <| st1 hS (mv rfl) rfl fun a w hS => s_call hS rfl Tryd.call82 (cmp_isNaN_int__c hG K x1642 (hS.st.part 0 [] (by kernel_rfl)) (wp_bind hM) (fun x1647 w hM  hst => s_back hS.ev hst.appF rfl fun hS => ?_))
 replace hS : Ss _ _ _ H [] F _ _ := hS
 refine st1 hS (asg rfl) rfl fun a w hS => wpList_nil <| then_n <| wp_seq <| wp_region_list <| st1 hS (mv rfl) rfl fun a w hS => s_call hS rfl Tryd.call82 (cmp_isNaN_int__c hG K y1643 (hS.st.part 0 [] (by kernel_rfl)) (wp_bind hM) (fun x1648 w hM  hst => s_back hS.ev hst.appF rfl fun hS => ?_))
 replace hS : Ss _ _ _ H [] F _ _ := hS
 refine st1 hS (asg rfl) rfl fun a w hS => wpList_nil <| then_n <| wp_seq <| wp_seq <| wp_region_list <| st1 hS (mv rfl) rfl fun a w hS => wpList_nil <| then_n <| s_cond hS rfl hM (fun hb1649 hM => ?_) (fun hb1649 hM => ?_)
 ·refine wp_seq ?_
  refine wp_seq <| wp_region_list <| st1 hS (mv rfl) rfl fun a w hS => wpList_nil <| then_n <| s_cond hS rfl hM (fun hb1650 hM => ?_) (fun hb1650 hM => ?_)
  ·refine wp_seq ?_
   refine wp_region_list <| st1 hS (asg rfl) rfl fun a w hS => wpList_nil <| then_n <| wp_ret <| then_ret (then_ret ?_)
   exact s_ret (rs := [4]) hS rfl rfl (hret (0 : Int) w (wp_ok hM) (hS.st.pick [] (by kernel_rfl)))
  ·refine wp_skip ?_
   refine then_n <| wp_seq <| wp_region_list <| st1 hS (asg rfl) rfl fun a w hS => wpList_nil <| then_n <| wp_ret <| then_ret ?_
   exact s_ret (rs := [4]) hS rfl rfl (hret (-1 : Int) w (wp_ok hM) (hS.st.pick [] (by kernel_rfl)))
 ·refine wp_skip ?_
  refine then_n <| wp_seq <| wp_seq <| wp_region_list <| st1 hS (mv rfl) rfl fun a w hS => wpList_nil <| then_n <| s_cond hS rfl hM (fun hb1651 hM => ?_) (fun hb1651 hM => ?_)
  ·refine wp_seq ?_
   refine wp_region_list <| st1 hS (asg rfl) rfl fun a w hS => wpList_nil <| then_n <| wp_ret <| then_ret ?_
   exact s_ret (rs := [4]) hS rfl rfl (hret (1 : Int) w (wp_ok hM) (hS.st.pick [] (by kernel_rfl)))
  ·refine wp_skip ?_
   refine then_n <| wp_seq <| wp_seq <| wp_region_list <| st1 hS (mv rfl) rfl fun a w hS => st1 hS (mv rfl) rfl fun a w hS => st1 hS (bin rfl rfl rfl) rfl fun a w hS => wpList_nil <| then_n <| s_cond hS rfl hM (fun hb1652 hM => ?_) (fun hb1652 hM => ?_)
   ·refine wp_seq ?_
    refine wp_region_list <| st1 hS (asg rfl) rfl fun a w hS => wpList_nil <| then_n <| wp_ret <| then_ret ?_
    exact s_ret (rs := [4]) hS rfl rfl (hret (-1 : Int) w (wp_ok hM) (hS.st.pick [] (by kernel_rfl)))
   ·refine wp_skip ?_
    refine then_n <| wp_seq <| wp_seq <| wp_region_list <| st1 hS (mv rfl) rfl fun a w hS => st1 hS (mv rfl) rfl fun a w hS => st1 hS (bin rfl rfl rfl) rfl fun a w hS => wpList_nil <| then_n <| s_cond hS rfl hM (fun hb1653 hM => ?_) (fun hb1653 hM => ?_)
    ·refine wp_seq ?_
     refine wp_region_list <| st1 hS (asg rfl) rfl fun a w hS => wpList_nil <| then_n <| wp_ret <| then_ret ?_
     exact s_ret (rs := [4]) hS rfl rfl (hret (1 : Int) w (wp_ok hM) (hS.st.pick [] (by kernel_rfl)))
    ·refine wp_skip ?_
     refine then_n <| wp_seq <| wp_region_list <| st1 hS (asg rfl) rfl fun a w hS => wpList_nil <| then_n <| wp_ret ?_
     exact s_ret (rs := [4]) hS rfl rfl (hret (0 : Int) w (wp_ok hM) (hS.st.pick [] (by kernel_rfl)))

theorem huff_Lengths_2_c {H : Imm} {F : List Frag} {w : World} {R : Ending → World → Prop} {kr : Int → Prop} {kp : Value → Prop} (hG : Gl H) (K : Nat) (x1626 : T_huff_packet) (y1631 : T_huff_packet) (A1627 : Option Addr) (c1628 : Nat) (A1632 : Option Addr) (c1633 : Nat) (hr1629 : Rdl H [] F (ci .i64) A1627 x1626.symbols_) (hc1630 : x1626.symbols_.length ≤ c1628) (hr1634 : Rdl H [] F (ci .i64) A1632 y1631.symbols_) (hc1635 : y1631.symbols_.length ≤ c1633)
    (hS : St w H [] F) (hm : (huff_Lengths_2.m K x1626 y1631).wp kr kp)
    (hret : ∀ (x1656 : Int) (w : World), kr x1656 → St w H [] F → R (.returned (.int .i64 x1656)) w) :
    Calls Tryd.prog 57 ⟨[.agg ⟨[.int .i64 x1626.often_, .slice A1627 x1626.symbols_.length c1628]⟩, .agg ⟨[.int .i64 y1631.often_, .slice A1632 y1631.symbols_.length c1633]⟩]⟩ w R := by
 refine enter Tryd.func57 rfl Tryd.ntmps57 rfl hS fun a w hS => ?_
 have hM := hm; clear hm
 rw [huff_Lengths_2.m] at hM
 refine wp_seq <| wp_region_list <| bx ([.int .i64 x1626.often_, .slice A1627 x1626.symbols_.length c1628]) hS rfl rfl rfl fun w b1636 f1637 hB1638 hS => bx ([.int .i64 y1631.often_, .slice A1632 y1631.symbols_.length c1633]) hS rfl rfl rfl fun w b1639 f1640 hB1641 hS => st1 hS (asg rfl) rfl fun a w hS => wpList_nil <| then_n <| wp_seq <| wp_region_list <| st1 hS (fad rfl Tryd.runUnderlying112 rfl Tryd.sizeOf3 rfl) rfl fun a w hS => st1 hS (ldb 1 rfl hB1638 rfl rfl Tryd.isAgg3) rfl fun a w hS => st1 hS (fad rfl Tryd.runUnderlying112 rfl Tryd.sizeOf3 rfl) rfl fun a w hS => st1 hS (ldb 0 rfl hB1641 rfl rfl Tryd.isAgg3) rfl fun a w hS => s_call hS rfl Tryd.call58 (cmp_Compare_int__c hG K x1626.often_ y1631.often_ (hS.st.part 0 [0, 1] (by kernel_rfl)) (wp_bind hM) (fun x1655 w hM  hst => s_back hS.ev hst.appF rfl fun hS => ?_))
 replace hS : Ss _ _ _ H [f1640, f1637] F _ _ := hS
 refine st1 hS (asg rfl) rfl fun a w hS => wpList_nil <| then_n <| wp_ret ?_
 exact s_ret (rs := [4]) hS rfl rfl (hret x1655 w (wp_ok hM) (hS.st.pick [] (by kernel_rfl)))

theorem slices_insertionSortCmpFunc_huff_packet__b6e1_5de2_c {H : Imm} {F : List Frag} {w : World} {R : Ending → World → Prop} {kr : (List T_huff_packet) → Prop} {kp : Value → Prop} (hG : Gl H) (K : Nat) (data1593 : List T_huff_packet) (a_1601 : Int) (b_1602 : Int) (p1594 : Frag) (A1595 : Option Addr) (c1596 : Nat) (rw1597 : List (Row 2)) (f1599 : Frag) (hr1598 : RelL (R_huff_packet p1594) data1593 rw1597) (hV1600 : Vec 112 (Row.v (sz := 2)) 2 A1595 rw1597 c1596 f1599)
    (hS : St w H [p1594, f1599] F) (hm : (slices_insertionSortCmpFunc_huff_packet__b6e1_5de2.m K data1593 a_1601 b_1602).wp kr kp)
    (hret : ∀ (rw1929 : List (Row 2)) (data1930 : (List T_huff_packet)) (f1931 : Frag) (w : World), kr data1930 → (Vec 112 (Row.v (sz := 2)) 2 A1595 rw1929 c1596 f1931) → (RelL (R_huff_packet p1594) data1930 rw1929) → (rw1929.length = rw1597.length) → St w H [p1594, f1931] F → R (.returned (.tuple ⟨[]⟩)) w) :
    Calls Tryd.prog 99 ⟨[.slice A1595 rw1597.length c1596, .int .i64 a_1601, .int .i64 b_1602, fnv 57 [] []]⟩ w R := by
 refine enter Tryd.func99 rfl Tryd.ntmps99 rfl hS fun a w hS => ?_
 have hM := hm; clear hm
 rw [slices_insertionSortCmpFunc_huff_packet__b6e1_5de2.m] at hM
 have hs1603 : ∀ q ∈ p1594, q ∈ p1594 := fun _ h => h
 have hz1604 : rw1597.length = rw1597.length := rfl
 refine wp_seq <| wp_region_list <| st1 hS (mv rfl) rfl fun a w hS => st1 hS (bin rfl rfl rfl) rfl fun a w hS => st1x (v := Value.int .i64) (x0 := (w64 (a_1601 + (1 : Int)))) hS (asg rfl) rfl fun i1605 a w hz hS => ?_
 have hM := lt_to hz hM; clear hz
 refine wpList_nil <| then_n <| wp_block <| s_loopJ (fun k1790 a w => ∃ (rw1783 : List (Row 2)) (data1784 : (List T_huff_packet)) (f1785 : Frag) (i1789 : Int), Ss 53 [] [(0, .slice A1595 rw1783.length c1596), (1, .int .i64 a_1601), (2, .int .i64 b_1602), (3, fnv 57 [] []), (8, .int .i64 i1789)] H [p1594, f1785] F a w ∧ (Vec 112 (Row.v (sz := 2)) 2 A1595 rw1783 c1596 f1785) ∧ (RelL (R_huff_packet p1594) data1784 rw1783) ∧ (rw1783.length = rw1597.length) ∧ (slices_insertionSortCmpFunc_huff_packet__b6e1_5de2.l1 K a_1601 b_1602 k1790 data1784 i1789).wp kr kp) K ?_ ?_ ?_
 ·exact ⟨rw1597, data1593, f1599, i1605, hS.to [0, 1] (by kernel_rfl) ⟨rfl, rfl, rfl, rfl, rfl, trivial⟩, hV1600, hr1598, hz1604, hM⟩
 ·intro a w hI; obtain ⟨_, _, _, _, _, _, _, _, hM⟩ := hI; exact wp_fail hM
 ·intro k1790 a w hI J1928 hJ1928
  obtain ⟨rw1783, data1784, f1785, i1789, hS, hV1786, hr1787, hz1788, hM⟩ := hI
  rw [slices_insertionSortCmpFunc_huff_packet__b6e1_5de2.l1] at hM
  refine wp_seq <| wp_seq <| wp_region_list <| st1 hS (mv rfl) rfl fun a w hS => st1 hS (mv rfl) rfl fun a w hS => st1 hS (bin rfl rfl rfl) rfl fun a w hS => wpList_nil <| then_n <| s_cond hS rfl hM (fun hb1791 hM => ?_) (fun hb1791 hM => ?_)
  ·refine wp_skip ?_
   refine then_n <| wp_seq <| wp_block <| wp_seq <| wp_region_list <| st1 hS (mv rfl) rfl fun a w hS => st1 hS (asg rfl) rfl fun a w hS => wpList_nil <| then_n <| wp_block <| s_loopJ (fun k1867 a w => ∃ (rw1860 : List (Row 2)) (data1861 : (List T_huff_packet)) (f1862 : Frag) (j1866 : Int), Ss 53 [] [(0, .slice A1595 rw1860.length c1596), (1, .int .i64 a_1601), (2, .int .i64 b_1602), (3, fnv 57 [] []), (8, .int .i64 i1789), (9, .int .i64 j1866)] H [p1594, f1862] F a w ∧ (Vec 112 (Row.v (sz := 2)) 2 A1595 rw1860 c1596 f1862) ∧ (RelL (R_huff_packet p1594) data1861 rw1860) ∧ (rw1860.length = rw1597.length) ∧ (slices_insertionSortCmpFunc_huff_packet__b6e1_5de2.l2 K (slices_insertionSortCmpFunc_huff_packet__b6e1_5de2.l1 K a_1601 b_1602 k1790) a_1601 i1789 k1867 data1861 j1866).wp kr kp) K ?_ ?_ ?_
   ·exact ⟨rw1783, data1784, f1785, i1789, hS.to [0, 1] (by kernel_rfl) ⟨rfl, rfl, rfl, rfl, rfl, rfl, trivial⟩, hV1786, hr1787, hz1788, hM⟩
   ·intro a w hI; obtain ⟨_, _, _, _, _, _, _, _, hM⟩ := hI; exact wp_fail hM
   ·intro k1867 a w hI J1927 hJ1927
    obtain ⟨rw1860, data1861, f1862, j1866, hS, hV1863, hr1864, hz1865, hM⟩ := hI
    rw [slices_insertionSortCmpFunc_huff_packet__b6e1_5de2.l2] at hM
    refine wp_seq <| seq_joinJ (fun a w => ∃ (v1884 : Bool), Ss 53 [] [(0, .slice A1595 rw1860.length c1596), (1, .int .i64 a_1601), (2, .int .i64 b_1602), (3, fnv 57 [] []), (8, .int .i64 i1789), (9, .int .i64 j1866), (34, .bool v1884)] H [p1594, f1862] F a w ∧ (slices_insertionSortCmpFunc_huff_packet__b6e1_5de2.j3 K (slices_insertionSortCmpFunc_huff_packet__b6e1_5de2.l1 K a_1601 b_1602 k1790) (slices_insertionSortCmpFunc_huff_packet__b6e1_5de2.l2 K (slices_insertionSortCmpFunc_huff_packet__b6e1_5de2.l1 K a_1601 b_1602 k1790) a_1601 i1789 k1867) i1789 data1861 j1866 v1884).wp kr kp) (fun J1885 hJ1885 => ?_) ?_
    ·refine ifB (b := (decide (j1866 > a_1601))) hM (fun hb1868 hM => ?_) (fun hb1868 hM => ?_)
     ·obtain ⟨hk1870, hM⟩ := wp_chk hM
      obtain ⟨A1871, c1872, hw1875, hp1873, hc1874⟩ := hr1864.get hk1870
      obtain ⟨hk1877, hM⟩ := wp_chk hM
      obtain ⟨A1878, c1879, hw1882, hp1880, hc1881⟩ := hr1864.get hk1877
      refine draw_begin (vals := [some (.int .i64 j1866), some (.int .i64 a_1601), some (.bool true), some (.bool true), some (fnv 57 [] []), some (.slice A1595 rw1860.length c1596), some (.int .i64 j1866), some (slp A1595 (Int.toNat j1866 * 2)), some (.agg ⟨[.int .i64 ((rd data1861 j1866).often_), .slice A1871 ((rd data1861 j1866).symbols_).length c1872]⟩), some (.slice A1595 rw1860.length c1596), some (.int .i64 j1866), some (.int .i64 (w64 (j1866 - (1 : Int)))), some (slp A1595 (Int.toNat (w64 (j1866 - (1 : Int))) * 2)), some (.agg ⟨[.int .i64 ((rd data1861 (w64 (j1866 - (1 : Int)))).often_), .slice A1878 ((rd data1861 (w64 (j1866 - (1 : Int)))).symbols_).length c1879]⟩), none, none, none]) hS mixed rfl ?_
      intro l w ho hcl hA hst
      refine phq hA hst ho hcl navail nmust 14 [0, 1, 2, 3, 4, 5, 6, 7, 8, 9, 10, 11, 12, 13] rfl rfl rfl rfl rfl (by exact ⟨nR rfl rfl rfl rfl rfl (by exact ovE (mv rfl) rfl), nR rfl rfl rfl rfl rfl (by exact ovE (mv rfl) rfl), nR rfl rfl rfl rfl rfl (by exact ovE (bin rfl rfl rfl) (congrArg Value.bool hb1868)), nR rfl rfl rfl rfl rfl (by exact ovE (mv rfl) rfl), nW rfl rfl rfl rfl rfl rfl rfl rfl (by exact ovE (mv rfl) rfl), nW rfl rfl rfl rfl rfl rfl rfl rfl (by exact ovE (mv rfl) rfl), nW rfl rfl rfl rfl rfl rfl rfl rfl (by exact ovE (mv rfl) rfl), nW rfl rfl rfl rfl rfl rfl rfl rfl (by exact ovE (ixV rfl rfl Tryd.runUnderlying110 Tryd.sizeOf112 (hV1863.rd (i := 1) rfl) Row.len rfl (hr1864.inb hk1870)) rfl), nW rfl rfl rfl rfl rfl rfl rfl rfl (by exact ovE (ovE (ldVA rfl (hV1863.rd (i := 1) rfl) Row.len (hr1864.inb hk1870) Tryd.isAgg112 Tryd.sizeOf112 rfl) (congrArg (fun l => Value.agg ⟨l⟩) hw1875)) rfl), nW rfl rfl rfl rfl rfl rfl rfl rfl (by exact ovE (mv rfl) rfl), nW rfl rfl rfl rfl rfl rfl rfl rfl (by exact ovE (mv rfl) rfl), nW rfl rfl rfl rfl rfl rfl rfl rfl (by exact ovE (bin rfl rfl rfl) rfl), nW rfl rfl rfl rfl rfl rfl rfl rfl (by exact ovE (ixV rfl rfl Tryd.runUnderlying110 Tryd.sizeOf112 (hV1863.rd (i := 1) rfl) Row.len rfl (hr1864.inb hk1877)) rfl), nW rfl rfl rfl rfl rfl rfl rfl rfl (by exact ovE (ovE (ldVA rfl (hV1863.rd (i := 1) rfl) Row.len (hr1864.inb hk1877) Tryd.isAgg112 Tryd.sizeOf112 rfl) (congrArg (fun l => Value.agg ⟨l⟩) hw1882)) rfl), trivial⟩) fun D l a w ho hcl hav hpre hm hE hk hA hst => ?_
      have hS := (Ss.mk hE hst).env2 (e' := [(21, .bool true), (22, fnv 57 [] []), (26, .agg ⟨[.int .i64 ((rd data1861 j1866).often_), .slice A1871 ((rd data1861 j1866).symbols_).length c1872]⟩), (31, .agg ⟨[.int .i64 ((rd data1861 (w64 (j1866 - (1 : Int)))).often_), .slice A1878 ((rd data1861 (w64 (j1866 - (1 : Int)))).symbols_).length c1879]⟩)]) ⟨rfl, rfl, rfl, rfl, trivial⟩
      refine op_of_nth rfl <| unguard hS rfl rfl rfl rfl <| s_callV hS rfl rfl Tryd.call57 (huff_Lengths_2_c hG K (T_huff_packet.mk ((rd data1861 j1866).often_) ((rd data1861 j1866).symbols_)) (T_huff_packet.mk ((rd data1861 (w64 (j1866 - (1 : Int)))).often_) ((rd data1861 (w64 (j1866 - (1 : Int)))).symbols_)) A1871 c1872 A1878 c1879 (hp1873.rdF (i := 0) rfl) hc1874 (hp1880.rdF (i := 0) rfl) hc1881 (hS.st.part 0 [0, 1] (by kernel_rfl)) (wp_bind hM) (fun x1883 w hM  hst => s_back hS.ev hst.appF rfl fun hS => ?_))
      replace hS : Ss _ _ _ H [p1594, f1862] F _ _ := hS
      refine wpList_nil (then_n ?_)
      replace hst := hS.st
      obtain ⟨hcl, hmust, hav2, hA⟩ := dn (vals' := [some (.int .i64 j1866), some (.int .i64 a_1601), some (.bool true), some (.bool true), some (fnv 57 [] []), some (.slice A1595 rw1860.length c1596), some (.int .i64 j1866), some (slp A1595 (Int.toNat j1866 * 2)), some (.agg ⟨[.int .i64 ((rd data1861 j1866).often_), .slice A1871 ((rd data1861 j1866).symbols_).length c1872]⟩), some (.slice A1595 rw1860.length c1596), some (.int .i64 j1866), some (.int .i64 (w64 (j1866 - (1 : Int)))), some (slp A1595 (Int.toNat (w64 (j1866 - (1 : Int))) * 2)), some (.agg ⟨[.int .i64 ((rd data1861 (w64 (j1866 - (1 : Int)))).often_), .slice A1878 ((rd data1861 (w64 (j1866 - (1 : Int)))).symbols_).length c1879]⟩), some (.int .i64 x1883), some (.bool (decide (x1883 < (0 : Int)))), some (.bool (decide (x1883 < (0 : Int))))]) 14 [(3, 14), (4, 14), (8, 14), (13, 14), (2, 3), (7, 8), (12, 13), (0, 2), (1, 2), (5, 7), (6, 7), (9, 12), (11, 12), (10, 11)] hA hcl hav hm hpre hk rfl rfl rfl rfl rfl rfl rfl
      clear hm hav
      refine phqE hA hst ho hcl hmust [15, 16] rfl rfl rfl (by exact ⟨nW rfl rfl rfl rfl rfl rfl rfl rfl (by exact ovE (bin rfl rfl rfl) rfl), nR rfl rfl rfl rfl rfl (by exact ovE (pk rfl rfl rfl) rfl), trivial⟩) fun a w hS => ?_
      replace hS := hS.env2 (e' := [(0, .slice A1595 rw1860.length c1596), (1, .int .i64 a_1601), (2, .int .i64 b_1602), (3, fnv 57 [] []), (8, .int .i64 i1789), (9, .int .i64 j1866), (34, .bool (decide (x1883 < (0 : Int))))]) ⟨rfl, rfl, rfl, rfl, rfl, rfl, rfl, trivial⟩
      refine then_n ?_
      exact hJ1885 _ _ ⟨(decide (x1883 < (0 : Int))), hS.to [0, 1] (by kernel_rfl) ⟨rfl, rfl, rfl, rfl, rfl, rfl, rfl, trivial⟩, hM⟩
     ·refine draw_begin (vals := [some (.int .i64 j1866), some (.int .i64 a_1601), some (.bool false), some (.bool false), some (undef), some (undef), some (undef), some (undef), some (undef), some (undef), some (undef), some (undef), some (undef), some (undef), some (undef), some (undef), some (.bool false)]) hS mixed rfl ?_
      intro l w ho hcl hA hst
      refine phqE hA hst ho hcl nmust [0, 1, 2, 3, 4, 5, 6, 7, 8, 9, 10, 11, 12, 13, 14, 15, 16] rfl rfl rfl (by exact ⟨nR rfl rfl rfl rfl rfl (by exact ovE (mv rfl) rfl), nR rfl rfl rfl rfl rfl (by exact ovE (mv rfl) rfl), nR rfl rfl rfl rfl rfl (by exact ovE (bin rfl rfl rfl) (congrArg Value.bool hb1868)), nR rfl rfl rfl rfl rfl (by exact ovE (mv rfl) rfl), nS rfl rfl rfl rfl rfl rfl rfl rfl rfl, nS rfl rfl rfl rfl rfl rfl rfl rfl rfl, nS rfl rfl rfl rfl rfl rfl rfl rfl rfl, nS rfl rfl rfl rfl rfl rfl rfl rfl rfl, nS rfl rfl rfl rfl rfl rfl rfl rfl rfl, nS rfl rfl rfl rfl rfl rfl rfl rfl rfl, nS rfl rfl rfl rfl rfl rfl rfl rfl rfl, nS rfl rfl rfl rfl rfl rfl rfl rfl rfl, nS rfl rfl rfl rfl rfl rfl rfl rfl rfl, nS rfl rfl rfl rfl rfl rfl rfl rfl rfl, nS rfl rfl rfl rfl rfl rfl rfl rfl rfl, nS rfl rfl rfl rfl rfl rfl rfl rfl rfl, nR rfl rfl rfl rfl rfl (by exact ovE (pk rfl rfl rfl) rfl), trivial⟩) fun a w hS => ?_
      replace hS := hS.env2 (e' := [(0, .slice A1595 rw1860.length c1596), (1, .int .i64 a_1601), (2, .int .i64 b_1602), (3, fnv 57 [] []), (8, .int .i64 i1789), (9, .int .i64 j1866), (34, .bool false)]) ⟨rfl, rfl, rfl, rfl, rfl, rfl, rfl, trivial⟩
      refine then_n ?_
      exact hJ1885 _ _ ⟨false, hS.to [0, 1] (by kernel_rfl) ⟨rfl, rfl, rfl, rfl, rfl, rfl, rfl, trivial⟩, hM⟩
    ·intro a w hI
     obtain ⟨v1884, hS, hM⟩ := hI
     rw [slices_insertionSortCmpFunc_huff_packet__b6e1_5de2.j3] at hM
     refine s_cond hS rfl hM (fun hb1886 hM => ?_) (fun hb1886 hM => ?_)
     ·refine wp_skip ?_
      refine then_n <| wp_seq <| wp_block ?_
      obtain ⟨hk1889, hM⟩ := wp_chk hM
      obtain ⟨A1890, c1891, hw1894, hp1892, hc1893⟩ := hr1864.get hk1889
      obtain ⟨hk1896, hM⟩ := wp_chk hM
      obtain ⟨A1897, c1898, hw1901, hp1899, hc1900⟩ := hr1864.get hk1896
      refine draw_begin (vals := [some (.slice A1595 rw1860.length c1596), some (.int .i64 j1866), some (.slice A1595 rw1860.length c1596), some (.int .i64 j1866), some (.int .i64 (w64 (j1866 - (1 : Int)))), some (.slice A1595 rw1860.length c1596), some (.int .i64 j1866), some (.int .i64 (w64 (j1866 - (1 : Int)))), some (slp A1595 (Int.toNat (w64 (j1866 - (1 : Int))) * 2)), some (.agg ⟨[.int .i64 ((rd data1861 (w64 (j1866 - (1 : Int)))).often_), .slice A1890 ((rd data1861 (w64 (j1866 - (1 : Int)))).symbols_).length c1891]⟩), some (.slice A1595 rw1860.length c1596), some (.int .i64 j1866), some (slp A1595 (Int.toNat j1866 * 2)), some (.agg ⟨[.int .i64 ((rd data1861 j1866).often_), .slice A1897 ((rd data1861 j1866).symbols_).length c1898]⟩), some (slp A1595 (Int.toNat j1866 * 2)), none, none, none]) hS mixed rfl ?_
      intro l w ho hcl hA hst
      refine phq hA hst ho hcl navail nmust 15 [0, 1, 2, 3, 4, 5, 6, 7, 8, 9, 10, 11, 12, 13, 14] rfl rfl rfl rfl rfl (by exact ⟨nR rfl rfl rfl rfl rfl (by exact ovE (mv rfl) rfl), nR rfl rfl rfl rfl rfl (by exact ovE (mv rfl) rfl), nR rfl rfl rfl rfl rfl (by exact ovE (mv rfl) rfl), nR rfl rfl rfl rfl rfl (by exact ovE (mv rfl) rfl), nR rfl rfl rfl rfl rfl (by exact ovE (bin rfl rfl rfl) rfl), nR rfl rfl rfl rfl rfl (by exact ovE (mv rfl) rfl), nR rfl rfl rfl rfl rfl (by exact ovE (mv rfl) rfl), nR rfl rfl rfl rfl rfl (by exact ovE (bin rfl rfl rfl) rfl), nR rfl rfl rfl rfl rfl (by exact ovE (ixV rfl rfl Tryd.runUnderlying110 Tryd.sizeOf112 (hV1863.rd (i := 1) rfl) Row.len rfl (hr1864.inb hk1889)) rfl), nR rfl rfl rfl rfl rfl (by exact ovE (ovE (ldVA rfl (hV1863.rd (i := 1) rfl) Row.len (hr1864.inb hk1889) Tryd.isAgg112 Tryd.sizeOf112 rfl) (congrArg (fun l => Value.agg ⟨l⟩) hw1894)) rfl), nR rfl rfl rfl rfl rfl (by exact ovE (mv rfl) rfl), nR rfl rfl rfl rfl rfl (by exact ovE (mv rfl) rfl), nR rfl rfl rfl rfl rfl (by exact ovE (ixV rfl rfl Tryd.runUnderlying110 Tryd.sizeOf112 (hV1863.rd (i := 1) rfl) Row.len rfl (hr1864.inb hk1896)) rfl), nR rfl rfl rfl rfl rfl (by exact ovE (ovE (ldVA rfl (hV1863.rd (i := 1) rfl) Row.len (hr1864.inb hk1896) Tryd.isAgg112 Tryd.sizeOf112 rfl) (congrArg (fun l => Value.agg ⟨l⟩) hw1901)) rfl), nR rfl rfl rfl rfl rfl (by exact ovE (ixV rfl rfl Tryd.runUnderlying110 Tryd.sizeOf112 (hV1863.rd (i := 1) rfl) Row.len rfl (hr1864.inb hk1896)) rfl), trivial⟩) fun D l a w ho hcl hav hpre hm hE hk hA hst => ?_
      have hS := (Ss.mk hE hst).env2 (e' := [(46, .agg ⟨[.int .i64 ((rd data1861 (w64 (j1866 - (1 : Int)))).often_), .slice A1890 ((rd data1861 (w64 (j1866 - (1 : Int)))).symbols_).length c1891]⟩), (51, slp A1595 (Int.toNat j1866 * 2))]) ⟨rfl, rfl, trivial⟩
      refine op_of_nth rfl <| stVR (i := j1866) (sz := 2) 1 (⟨[.int .i64 ((rd data1861 (w64 (j1866 - (1 : Int)))).often_), .slice A1890 ((rd data1861 (w64 (j1866 - (1 : Int)))).symbols_).length c1891], by simp, by simp [Value.oneCell']⟩ : Row 2) hS rfl rfl hV1863 rfl Tryd.sizeOf112 rfl (hr1864.inb hk1896) fun rw1908 w f1906 hz hV1907 hS => ?_
      obtain ⟨zs1909, hzm⟩ := nameE (data1861.set (Int.toNat j1866) (T_huff_packet.mk ((rd data1861 (w64 (j1866 - (1 : Int)))).often_) ((rd data1861 (w64 (j1866 - (1 : Int)))).symbols_)))
      replace hM := lt_to hzm hM
      have hr1910 := RelL.set (x := (T_huff_packet.mk ((rd data1861 (w64 (j1866 - (1 : Int)))).often_) ((rd data1861 (w64 (j1866 - (1 : Int)))).symbols_))) (r := (⟨[.int .i64 ((rd data1861 (w64 (j1866 - (1 : Int)))).often_), .slice A1890 ((rd data1861 (w64 (j1866 - (1 : Int)))).symbols_).length c1891], by simp, by simp [Value.oneCell']⟩ : Row 2)) (Int.toNat j1866) hr1864 (show R_huff_packet p1594 _ _ from ⟨A1890, c1891, rfl, hp1892, hc1893⟩)
      have hz1911 : rw1908.length = rw1860.length := by rw [hz]; exact List.length_set ..
      rw [← hz, ← hzm] at hr1910; clear hz hzm
      have hz1912 := Eq.trans hz1911 hz1865
      refine wpList_nil (then_n ?_)
      replace hst := hS.st
      obtain ⟨hk1914, hM⟩ := wp_chk hM
      obtain ⟨hcl, hmust, hav2, hA⟩ := dnN (vals' := [some (.slice A1595 rw1860.length c1596), some (.int .i64 j1866), some (.slice A1595 rw1860.length c1596), some (.int .i64 j1866), some (.int .i64 (w64 (j1866 - (1 : Int)))), some (.slice A1595 rw1860.length c1596), some (.int .i64 j1866), some (.int .i64 (w64 (j1866 - (1 : Int)))), some (slp A1595 (Int.toNat (w64 (j1866 - (1 : Int))) * 2)), some (.agg ⟨[.int .i64 ((rd data1861 (w64 (j1866 - (1 : Int)))).often_), .slice A1890 ((rd data1861 (w64 (j1866 - (1 : Int)))).symbols_).length c1891]⟩), some (.slice A1595 rw1860.length c1596), some (.int .i64 j1866), some (slp A1595 (Int.toNat j1866 * 2)), some (.agg ⟨[.int .i64 ((rd data1861 j1866).often_), .slice A1897 ((rd data1861 j1866).symbols_).length c1898]⟩), some (slp A1595 (Int.toNat j1866 * 2)), some undef, some (slp A1595 (Int.toNat (w64 (j1866 - (1 : Int))) * 2)), none]) 15 [(0, 15), (1, 15), (5, 15), (6, 15), (7, 15), (8, 15), (9, 15), (13, 15), (14, 15), (12, 13), (10, 12), (11, 12)] hA hcl hav hm hpre rfl rfl rfl rfl rfl
      clear hm hav
      refine phq hA hst ho hcl hav2 hmust 17 [2, 3, 4, 16] rfl rfl rfl rfl rfl (by exact ⟨nR rfl rfl rfl rfl rfl (by exact ovE (mv rfl) rfl), nR rfl rfl rfl rfl rfl (by exact ovE (mv rfl) rfl), nR rfl rfl rfl rfl rfl (by exact ovE (bin rfl rfl rfl) rfl), nR rfl rfl rfl rfl rfl (by exact ovE (ixV (lenx hz1911 rfl) rfl Tryd.runUnderlying110 Tryd.sizeOf112 (hV1907.rd (i := 1) rfl) Row.len rfl (hr1910.inb hk1914)) rfl), trivial⟩) fun D l a w ho hcl hav hpre hm hE hk hA hst => ?_
      have hS := (Ss.mk hE hst).env2 (e' := [(50, .agg ⟨[.int .i64 ((rd data1861 j1866).often_), .slice A1897 ((rd data1861 j1866).symbols_).length c1898]⟩), (52, slp A1595 (Int.toNat (w64 (j1866 - (1 : Int))) * 2))]) ⟨rfl, rfl, trivial⟩
      refine op_of_nth rfl <| stVR (i := (w64 (j1866 - (1 : Int)))) (sz := 2) 1 (⟨[.int .i64 ((rd data1861 j1866).often_), .slice A1897 ((rd data1861 j1866).symbols_).length c1898], by simp, by simp [Value.oneCell']⟩ : Row 2) hS rfl rfl hV1907 rfl Tryd.sizeOf112 rfl (hr1910.inb hk1914) fun rw1921 w f1919 hz hV1920 hS => ?_
      obtain ⟨zs1922, hzm⟩ := nameE (zs1909.set (Int.toNat (w64 (j1866 - (1 : Int)))) (T_huff_packet.mk ((rd data1861 j1866).often_) ((rd data1861 j1866).symbols_)))
      replace hM := lt_to hzm hM
      have hr1923 := RelL.set (x := (T_huff_packet.mk ((rd data1861 j1866).often_) ((rd data1861 j1866).symbols_))) (r := (⟨[.int .i64 ((rd data1861 j1866).often_), .slice A1897 ((rd data1861 j1866).symbols_).length c1898], by simp, by simp [Value.oneCell']⟩ : Row 2)) (Int.toNat (w64 (j1866 - (1 : Int)))) hr1910 (show R_huff_packet p1594 _ _ from ⟨A1897, c1898, rfl, hp1899, hc1900⟩)
      have hz1924 : rw1921.length = rw1908.length := by rw [hz]; exact List.length_set ..
      rw [← hz, ← hzm] at hr1923; clear hz hzm
      have hz1925 := Eq.trans hz1924 hz1912
      refine wpList_nil (then_n ?_)
      replace hst := hS.st
      obtain ⟨hcl, hmust, hav2, hA⟩ := dnN (vals' := [some (.slice A1595 rw1860.length c1596), some (.int .i64 j1866), some (.slice A1595 rw1860.length c1596), some (.int .i64 j1866), some (.int .i64 (w64 (j1866 - (1 : Int)))), some (.slice A1595 rw1860.length c1596), some (.int .i64 j1866), some (.int .i64 (w64 (j1866 - (1 : Int)))), some (slp A1595 (Int.toNat (w64 (j1866 - (1 : Int))) * 2)), some (.agg ⟨[.int .i64 ((rd data1861 (w64 (j1866 - (1 : Int)))).often_), .slice A1890 ((rd data1861 (w64 (j1866 - (1 : Int)))).symbols_).length c1891]⟩), some (.slice A1595 rw1860.length c1596), some (.int .i64 j1866), some (slp A1595 (Int.toNat j1866 * 2)), some (.agg ⟨[.int .i64 ((rd data1861 j1866).often_), .slice A1897 ((rd data1861 j1866).symbols_).length c1898]⟩), some (slp A1595 (Int.toNat j1866 * 2)), some undef, some (slp A1595 (Int.toNat (w64 (j1866 - (1 : Int))) * 2)), some undef]) 17 [(0, 17), (1, 17), (2, 17), (3, 17), (4, 17), (5, 17), (6, 17), (7, 17), (8, 17), (9, 17), (10, 17), (11, 17), (12, 17), (13, 17), (14, 17), (15, 17), (16, 17)] hA hcl hav hm hpre rfl rfl rfl rfl rfl
      clear hm hav
      refine phqE hA hst ho hcl hmust [] rfl rfl rfl trivial fun a w hS => ?_
      replace hS := hS.env2 (e' := [(0, .slice A1595 rw1921.length c1596), (1, .int .i64 a_1601), (2, .int .i64 b_1602), (3, fnv 57 [] []), (8, .int .i64 i1789), (9, .int .i64 j1866)]) ⟨(relk (u := .slice A1595 rw1860.length c1596) rfl (by rw [hz1924, hz1911])), rfl, rfl, rfl, rfl, rfl, trivial⟩
      refine blk_n (then_n ?_)
      refine wp_region_list <| st1 hS (mv rfl) rfl fun a w hS => st1 hS (bin rfl rfl rfl) rfl fun a w hS => st1x (v := Value.int .i64) (x0 := (w64 (j1866 - (1 : Int)))) hS (asg rfl) rfl fun j1926 a w hz hS => ?_
      have hM := lt_to hz hM; clear hz
      refine wpList_nil <| then_n ?_
      exact hJ1927 _ _ ⟨rw1921, zs1922, f1919, j1926, hS.to [0, 1] (by kernel_rfl) ⟨rfl, rfl, rfl, rfl, rfl, rfl, trivial⟩, hV1920, hr1923, hz1925, hM⟩
     ·refine wp_exit ?_
      refine then_ex (then_ex (blk_same (blk_n (then_n ?_))))
      refine wp_region_list <| st1 hS (mv rfl) rfl fun a w hS => st1 hS (bin rfl rfl rfl) rfl fun a w hS => st1x (v := Value.int .i64) (x0 := (w64 (i1789 + (1 : Int)))) hS (asg rfl) rfl fun i1887 a w hz hS => ?_
      have hM := lt_to hz hM; clear hz
      refine wpList_nil <| then_n ?_
      exact hJ1928 _ _ ⟨rw1860, data1861, f1862, i1887, hS.to [0, 1] (by kernel_rfl) ⟨rfl, rfl, rfl, rfl, rfl, trivial⟩, hV1863, hr1864, hz1865, hM⟩
  ·refine wp_exit ?_
   refine then_ex (then_ex (blk_same ?_))
   exact s_end (rs := []) hS rfl rfl (hret rw1783 data1784 f1785 w (wp_ok hM) hV1786 hr1787 hz1788 (hS.st.pick [0, 1] (by kernel_rfl)))

theorem slices_swapRangeCmpFunc_huff_packet__b6e1_7e8b_c {H : Imm} {F : List Frag} {w : World} {R : Ending → World → Prop} {kr : (List T_huff_packet) → Prop} {kp : Value → Prop} (hG : Gl H) (K : Nat) (data2311 : List T_huff_packet) (a_2319 : Int) (b_2320 : Int) (n_2321 : Int) (p2312 : Frag) (A2313 : Option Addr) (c2314 : Nat) (rw2315 : List (Row 2)) (f2317 : Frag) (hr2316 : RelL (R_huff_packet p2312) data2311 rw2315) (hV2318 : Vec 112 (Row.v (sz := 2)) 2 A2313 rw2315 c2314 f2317)
    (hS : St w H [p2312, f2317] F) (hm : (slices_swapRangeCmpFunc_huff_packet__b6e1_7e8b.m K data2311 a_2319 b_2320 n_2321).wp kr kp)
    (hret : ∀ (rw2422 : List (Row 2)) (data2423 : (List T_huff_packet)) (f2424 : Frag) (w : World), kr data2423 → (Vec 112 (Row.v (sz := 2)) 2 A2313 rw2422 c2314 f2424) → (RelL (R_huff_packet p2312) data2423 rw2422) → (rw2422.length = rw2315.length) → St w H [p2312, f2424] F → R (.returned (.tuple ⟨[]⟩)) w) :
    Calls Tryd.prog 109 ⟨[.slice A2313 rw2315.length c2314, .int .i64 a_2319, .int .i64 b_2320, .int .i64 n_2321, fnv 57 [] []]⟩ w R := by
 refine enter Tryd.func109 rfl Tryd.ntmps109 rfl hS fun a w hS => ?_
 have hM := hm; clear hm
 rw [slices_swapRangeCmpFunc_huff_packet__b6e1_7e8b.m] at hM
 have hs2322 : ∀ q ∈ p2312, q ∈ p2312 := fun _ h => h
 have hz2323 : rw2315.length = rw2315.length := rfl
 refine wp_seq <| wp_region_list <| st1 hS (asg rfl) rfl fun a w hS => wpList_nil <| then_n <| wp_block <| s_loopJ (fun k2380 a w => ∃ (rw2373 : List (Row 2)) (data2374 : (List T_huff_packet)) (f2375 : Frag) (i2379 : Int), Ss 38 [] [(0, .slice A2313 rw2373.length c2314), (1, .int .i64 a_2319), (2, .int .i64 b_2320), (3, .int .i64 n_2321), (10, .int .i64 i2379)] H [p2312, f2375] F a w ∧ (Vec 112 (Row.v (sz := 2)) 2 A2313 rw2373 c2314 f2375) ∧ (RelL (R_huff_packet p2312) data2374 rw2373) ∧ (rw2373.length = rw2315.length) ∧ (slices_swapRangeCmpFunc_huff_packet__b6e1_7e8b.l1 K a_2319 b_2320 n_2321 k2380 data2374 i2379).wp kr kp) K ?_ ?_ ?_
 ·exact ⟨rw2315, data2311, f2317, (0 : Int), hS.to [0, 1] (by kernel_rfl) ⟨rfl, rfl, rfl, rfl, rfl, trivial⟩, hV2318, hr2316, hz2323, hM⟩
 ·intro a w hI; obtain ⟨_, _, _, _, _, _, _, _, hM⟩ := hI; exact wp_fail hM
 ·intro k2380 a w hI J2421 hJ2421
  obtain ⟨rw2373, data2374, f2375, i2379, hS, hV2376, hr2377, hz2378, hM⟩ := hI
  rw [slices_swapRangeCmpFunc_huff_packet__b6e1_7e8b.l1] at hM
  refine wp_seq <| wp_seq <| wp_region_list <| st1 hS (mv rfl) rfl fun a w hS => st1 hS (mv rfl) rfl fun a w hS => st1 hS (bin rfl rfl rfl) rfl fun a w hS => wpList_nil <| then_n <| s_cond hS rfl hM (fun hb2381 hM => ?_) (fun hb2381 hM => ?_)
  ·refine wp_skip ?_
   refine then_n <| wp_seq <| wp_block ?_
   obtain ⟨hk2383, hM⟩ := wp_chk hM
   obtain ⟨A2384, c2385, hw2388, hp2386, hc2387⟩ := hr2377.get hk2383
   obtain ⟨hk2390, hM⟩ := wp_chk hM
   obtain ⟨A2391, c2392, hw2395, hp2393, hc2394⟩ := hr2377.get hk2390
   refine draw_begin (vals := [some (.slice A2313 rw2373.length c2314), some (.int .i64 a_2319), some (.int .i64 i2379), some (.int .i64 (w64 (a_2319 + i2379))), some (.slice A2313 rw2373.length c2314), some (.int .i64 b_2320), some (.int .i64 i2379), some (.int .i64 (w64 (b_2320 + i2379))), some (.slice A2313 rw2373.length c2314), some (.int .i64 b_2320), some (.int .i64 i2379), some (.int .i64 (w64 (b_2320 + i2379))), some (slp A2313 (Int.toNat (w64 (b_2320 + i2379)) * 2)), some (.agg ⟨[.int .i64 ((rd data2374 (w64 (b_2320 + i2379))).often_), .slice A2384 ((rd data2374 (w64 (b_2320 + i2379))).symbols_).length c2385]⟩), some (.slice A2313 rw2373.length c2314), some (.int .i64 a_2319), some (.int .i64 i2379), some (.int .i64 (w64 (a_2319 + i2379))), some (slp A2313 (Int.toNat (w64 (a_2319 + i2379)) * 2)), some (.agg ⟨[.int .i64 ((rd data2374 (w64 (a_2319 + i2379))).often_), .slice A2391 ((rd data2374 (w64 (a_2319 + i2379))).symbols_).length c2392]⟩), some (slp A2313 (Int.toNat (w64 (a_2319 + i2379)) * 2)), none, none, none]) hS mixed rfl ?_
   intro l w ho hcl hA hst
   refine phq hA hst ho hcl navail nmust 21 [0, 1, 2, 3, 4, 5, 6, 7, 8, 9, 10, 11, 12, 13, 14, 15, 16, 17, 18, 19, 20] rfl rfl rfl rfl rfl (by exact ⟨nR rfl rfl rfl rfl rfl (by exact ovE (mv rfl) rfl), nR rfl rfl rfl rfl rfl (by exact ovE (mv rfl) rfl), nR rfl rfl rfl rfl rfl (by exact ovE (mv rfl) rfl), nR rfl rfl rfl rfl rfl (by exact ovE (bin rfl rfl rfl) rfl), nR rfl rfl rfl rfl rfl (by exact ovE (mv rfl) rfl), nR rfl rfl rfl rfl rfl (by exact ovE (mv rfl) rfl), nR rfl rfl rfl rfl rfl (by exact ovE (mv rfl) rfl), nR rfl rfl rfl rfl rfl (by exact ovE (bin rfl rfl rfl) rfl), nR rfl rfl rfl rfl rfl (by exact ovE (mv rfl) rfl), nR rfl rfl rfl rfl rfl (by exact ovE (mv rfl) rfl), nR rfl rfl rfl rfl rfl (by exact ovE (mv rfl) rfl), nR rfl rfl rfl rfl rfl (by exact ovE (bin rfl rfl rfl) rfl), nR rfl rfl rfl rfl rfl (by exact ovE (ixV rfl rfl Tryd.runUnderlying110 Tryd.sizeOf112 (hV2376.rd (i := 1) rfl) Row.len rfl (hr2377.inb hk2383)) rfl), nR rfl rfl rfl rfl rfl (by exact ovE (ovE (ldVA rfl (hV2376.rd (i := 1) rfl) Row.len (hr2377.inb hk2383) Tryd.isAgg112 Tryd.sizeOf112 rfl) (congrArg (fun l => Value.agg ⟨l⟩) hw2388)) rfl), nR rfl rfl rfl rfl rfl (by exact ovE (mv rfl) rfl), nR rfl rfl rfl rfl rfl (by exact ovE (mv rfl) rfl), nR rfl rfl rfl rfl rfl (by exact ovE (mv rfl) rfl), nR rfl rfl rfl rfl rfl (by exact ovE (bin rfl rfl rfl) rfl), nR rfl rfl rfl rfl rfl (by exact ovE (ixV rfl rfl Tryd.runUnderlying110 Tryd.sizeOf112 (hV2376.rd (i := 1) rfl) Row.len rfl (hr2377.inb hk2390)) rfl), nR rfl rfl rfl rfl rfl (by exact ovE (ovE (ldVA rfl (hV2376.rd (i := 1) rfl) Row.len (hr2377.inb hk2390) Tryd.isAgg112 Tryd.sizeOf112 rfl) (congrArg (fun l => Value.agg ⟨l⟩) hw2395)) rfl), nR rfl rfl rfl rfl rfl (by exact ovE (ixV rfl rfl Tryd.runUnderlying110 Tryd.sizeOf112 (hV2376.rd (i := 1) rfl) Row.len rfl (hr2377.inb hk2390)) rfl), trivial⟩) fun D l a w ho hcl hav hpre hm hE hk hA hst => ?_
   have hS := (Ss.mk hE hst).env2 (e' := [(29, .agg ⟨[.int .i64 ((rd data2374 (w64 (b_2320 + i2379))).often_), .slice A2384 ((rd data2374 (w64 (b_2320 + i2379))).symbols_).length c2385]⟩), (36, slp A2313 (Int.toNat (w64 (a_2319 + i2379)) * 2))]) ⟨rfl, rfl, trivial⟩
   refine op_of_nth rfl <| stVR (i := (w64 (a_2319 + i2379))) (sz := 2) 1 (⟨[.int .i64 ((rd data2374 (w64 (b_2320 + i2379))).often_), .slice A2384 ((rd data2374 (w64 (b_2320 + i2379))).symbols_).length c2385], by simp, by simp [Value.oneCell']⟩ : Row 2) hS rfl rfl hV2376 rfl Tryd.sizeOf112 rfl (hr2377.inb hk2390) fun rw2402 w f2400 hz hV2401 hS => ?_
   obtain ⟨zs2403, hzm⟩ := nameE (data2374.set (Int.toNat (w64 (a_2319 + i2379))) (T_huff_packet.mk ((rd data2374 (w64 (b_2320 + i2379))).often_) ((rd data2374 (w64 (b_2320 + i2379))).symbols_)))
   replace hM := lt_to hzm hM
   have hr2404 := RelL.set (x := (T_huff_packet.mk ((rd data2374 (w64 (b_2320 + i2379))).often_) ((rd data2374 (w64 (b_2320 + i2379))).symbols_))) (r := (⟨[.int .i64 ((rd data2374 (w64 (b_2320 + i2379))).often_), .slice A2384 ((rd data2374 (w64 (b_2320 + i2379))).symbols_).length c2385], by simp, by simp [Value.oneCell']⟩ : Row 2)) (Int.toNat (w64 (a_2319 + i2379))) hr2377 (show R_huff_packet p2312 _ _ from ⟨A2384, c2385, rfl, hp2386, hc2387⟩)
   have hz2405 : rw2402.length = rw2373.length := by rw [hz]; exact List.length_set ..
   rw [← hz, ← hzm] at hr2404; clear hz hzm
   have hz2406 := Eq.trans hz2405 hz2378
   refine wpList_nil (then_n ?_)
   replace hst := hS.st
   obtain ⟨hk2408, hM⟩ := wp_chk hM
   obtain ⟨hcl, hmust, hav2, hA⟩ := dnN (vals' := [some (.slice A2313 rw2373.length c2314), some (.int .i64 a_2319), some (.int .i64 i2379), some (.int .i64 (w64 (a_2319 + i2379))), some (.slice A2313 rw2373.length c2314), some (.int .i64 b_2320), some (.int .i64 i2379), some (.int .i64 (w64 (b_2320 + i2379))), some (.slice A2313 rw2373.length c2314), some (.int .i64 b_2320), some (.int .i64 i2379), some (.int .i64 (w64 (b_2320 + i2379))), some (slp A2313 (Int.toNat (w64 (b_2320 + i2379)) * 2)), some (.agg ⟨[.int .i64 ((rd data2374 (w64 (b_2320 + i2379))).often_), .slice A2384 ((rd data2374 (w64 (b_2320 + i2379))).symbols_).length c2385]⟩), some (.slice A2313 rw2373.length c2314), some (.int .i64 a_2319), some (.int .i64 i2379), some (.int .i64 (w64 (a_2319 + i2379))), some (slp A2313 (Int.toNat (w64 (a_2319 + i2379)) * 2)), some (.agg ⟨[.int .i64 ((rd data2374 (w64 (a_2319 + i2379))).often_), .slice A2391 ((rd data2374 (w64 (a_2319 + i2379))).symbols_).length c2392]⟩), some (slp A2313 (Int.toNat (w64 (a_2319 + i2379)) * 2)), some undef, some (slp A2313 (Int.toNat (w64 (b_2320 + i2379)) * 2)), none]) 21 [(0, 21), (1, 21), (2, 21), (3, 21), (8, 21), (9, 21), (10, 21), (11, 21), (12, 21), (13, 21), (19, 21), (20, 21), (18, 19), (14, 18), (17, 18), (15, 17), (16, 17)] hA hcl hav hm hpre rfl rfl rfl rfl rfl
   clear hm hav
   refine phq hA hst ho hcl hav2 hmust 23 [4, 5, 6, 7, 22] rfl rfl rfl rfl rfl (by exact ⟨nR rfl rfl rfl rfl rfl (by exact ovE (mv rfl) rfl), nR rfl rfl rfl rfl rfl (by exact ovE (mv rfl) rfl), nR rfl rfl rfl rfl rfl (by exact ovE (mv rfl) rfl), nR rfl rfl rfl rfl rfl (by exact ovE (bin rfl rfl rfl) rfl), nR rfl rfl rfl rfl rfl (by exact ovE (ixV (lenx hz2405 rfl) rfl Tryd.runUnderlying110 Tryd.sizeOf112 (hV2401.rd (i := 1) rfl) Row.len rfl (hr2404.inb hk2408)) rfl), trivial⟩) fun D l a w ho hcl hav hpre hm hE hk hA hst => ?_
   have hS := (Ss.mk hE hst).env2 (e' := [(35, .agg ⟨[.int .i64 ((rd data2374 (w64 (a_2319 + i2379))).often_), .slice A2391 ((rd data2374 (w64 (a_2319 + i2379))).symbols_).length c2392]⟩), (37, slp A2313 (Int.toNat (w64 (b_2320 + i2379)) * 2))]) ⟨rfl, rfl, trivial⟩
   refine op_of_nth rfl <| stVR (i := (w64 (b_2320 + i2379))) (sz := 2) 1 (⟨[.int .i64 ((rd data2374 (w64 (a_2319 + i2379))).often_), .slice A2391 ((rd data2374 (w64 (a_2319 + i2379))).symbols_).length c2392], by simp, by simp [Value.oneCell']⟩ : Row 2) hS rfl rfl hV2401 rfl Tryd.sizeOf112 rfl (hr2404.inb hk2408) fun rw2415 w f2413 hz hV2414 hS => ?_
   obtain ⟨zs2416, hzm⟩ := nameE (zs2403.set (Int.toNat (w64 (b_2320 + i2379))) (T_huff_packet.mk ((rd data2374 (w64 (a_2319 + i2379))).often_) ((rd data2374 (w64 (a_2319 + i2379))).symbols_)))
   replace hM := lt_to hzm hM
   have hr2417 := RelL.set (x := (T_huff_packet.mk ((rd data2374 (w64 (a_2319 + i2379))).often_) ((rd data2374 (w64 (a_2319 + i2379))).symbols_))) (r := (⟨[.int .i64 ((rd data2374 (w64 (a_2319 + i2379))).often_), .slice A2391 ((rd data2374 (w64 (a_2319 + i2379))).symbols_).length c2392], by simp, by simp [Value.oneCell']⟩ : Row 2)) (Int.toNat (w64 (b_2320 + i2379))) hr2404 (show R_huff_packet p2312 _ _ from ⟨A2391, c2392, rfl, hp2393, hc2394⟩)
   have hz2418 : rw2415.length = rw2402.length := by rw [hz]; exact List.length_set ..
   rw [← hz, ← hzm] at hr2417; clear hz hzm
   have hz2419 := Eq.trans hz2418 hz2406
   refine wpList_nil (then_n ?_)
   replace hst := hS.st
   obtain ⟨hcl, hmust, hav2, hA⟩ := dnN (vals' := [some (.slice A2313 rw2373.length c2314), some (.int .i64 a_2319), some (.int .i64 i2379), some (.int .i64 (w64 (a_2319 + i2379))), some (.slice A2313 rw2373.length c2314), some (.int .i64 b_2320), some (.int .i64 i2379), some (.int .i64 (w64 (b_2320 + i2379))), some (.slice A2313 rw2373.length c2314), some (.int .i64 b_2320), some (.int .i64 i2379), some (.int .i64 (w64 (b_2320 + i2379))), some (slp A2313 (Int.toNat (w64 (b_2320 + i2379)) * 2)), some (.agg ⟨[.int .i64 ((rd data2374 (w64 (b_2320 + i2379))).often_), .slice A2384 ((rd data2374 (w64 (b_2320 + i2379))).symbols_).length c2385]⟩), some (.slice A2313 rw2373.length c2314), some (.int .i64 a_2319), some (.int .i64 i2379), some (.int .i64 (w64 (a_2319 + i2379))), some (slp A2313 (Int.toNat (w64 (a_2319 + i2379)) * 2)), some (.agg ⟨[.int .i64 ((rd data2374 (w64 (a_2319 + i2379))).often_), .slice A2391 ((rd data2374 (w64 (a_2319 + i2379))).symbols_).length c2392]⟩), some (slp A2313 (Int.toNat (w64 (a_2319 + i2379)) * 2)), some undef, some (slp A2313 (Int.toNat (w64 (b_2320 + i2379)) * 2)), some undef]) 23 [(0, 23), (1, 23), (2, 23), (3, 23), (4, 23), (5, 23), (6, 23), (7, 23), (8, 23), (9, 23), (10, 23), (11, 23), (12, 23), (13, 23), (14, 23), (15, 23), (16, 23), (17, 23), (18, 23), (19, 23), (20, 23), (21, 23), (22, 23)] hA hcl hav hm hpre rfl rfl rfl rfl rfl
   clear hm hav
   refine phqE hA hst ho hcl hmust [] rfl rfl rfl trivial fun a w hS => ?_
   replace hS := hS.env2 (e' := [(0, .slice A2313 rw2415.length c2314), (1, .int .i64 a_2319), (2, .int .i64 b_2320), (3, .int .i64 n_2321), (10, .int .i64 i2379)]) ⟨(relk (u := .slice A2313 rw2373.length c2314) rfl (by rw [hz2418, hz2405])), rfl, rfl, rfl, rfl, trivial⟩
   refine blk_n (then_n ?_)
   refine wp_region_list <| st1 hS (mv rfl) rfl fun a w hS => st1 hS (bin rfl rfl rfl) rfl fun a w hS => st1x (v := Value.int .i64) (x0 := (w64 (i2379 + (1 : Int)))) hS (asg rfl) rfl fun i2420 a w hz hS => ?_
   have hM := lt_to hz hM; clear hz
   refine wpList_nil <| then_n ?_
   exact hJ2421 _ _ ⟨rw2415, zs2416, f2413, i2420, hS.to [0, 1] (by kernel_rfl) ⟨rfl, rfl, rfl, rfl, rfl, trivial⟩, hV2414, hr2417, hz2419, hM⟩
  ·refine wp_exit ?_
   refine then_ex (then_ex (blk_same ?_))
   exact s_end (rs := []) hS rfl rfl (hret rw2373 data2374 f2375 w (wp_ok hM) hV2376 hr2377 hz2378 (hS.st.pick [0, 1] (by kernel_rfl)))

theorem slices_rotateCmpFunc_huff_packet__b6e1_7e8b_c {H : Imm} {F : List Frag} {w : World} {R : Ending → World → Prop} {kr : (List T_huff_packet) → Prop} {kp : Value → Prop} (hG : Gl H) (K : Nat) (data2291 : List T_huff_packet) (a_2299 : Int) (m2300 : Int) (b_2301 : Int) (p2292 : Frag) (A2293 : Option Addr) (c2294 : Nat) (rw2295 : List (Row 2)) (f2297 : Frag) (hr2296 : RelL (R_huff_packet p2292) data2291 rw2295) (hV2298 : Vec 112 (Row.v (sz := 2)) 2 A2293 rw2295 c2294 f2297)
    (hS : St w H [p2292, f2297] F) (hm : (slices_rotateCmpFunc_huff_packet__b6e1_7e8b.m K data2291 a_2299 m2300 b_2301).wp kr kp)
    (hret : ∀ (rw2495 : List (Row 2)) (data2496 : (List T_huff_packet)) (f2497 : Frag) (w : World), kr data2496 → (Vec 112 (Row.v (sz := 2)) 2 A2293 rw2495 c2294 f2497) → (RelL (R_huff_packet p2292) data2496 rw2495) → (rw2495.length = rw2295.length) → St w H [p2292, f2497] F → R (.returned (.tuple ⟨[]⟩)) w) :
    Calls Tryd.prog 108 ⟨[.slice A2293 rw2295.length c2294, .int .i64 a_2299, .int .i64 m2300, .int .i64 b_2301, fnv 57 [] []]⟩ w R := by
 refine enter Tryd.func108 rfl Tryd.ntmps108 rfl hS fun a w hS => ?_
 have hM := hm; clear hm
 rw [slices_rotateCmpFunc_huff_packet__b6e1_7e8b.m] at hM
 have hs2302 : ∀ q ∈ p2292, q ∈ p2292 := fun _ h => h
 have hz2303 : rw2295.length = rw2295.length := rfl
 refine wp_seq <| wp_region_list <| st1 hS (mv rfl) rfl fun a w hS => st1 hS (mv rfl) rfl fun a w hS => st1 hS (bin rfl rfl rfl) rfl fun a w hS => st1x (v := Value.int .i64) (x0 := (w64 (m2300 - a_2299))) hS (asg rfl) rfl fun i2304 a w hz hS => ?_
 have hM := lt_to hz hM; clear hz
 refine wpList_nil <| then_n <| wp_seq <| wp_region_list <| st1 hS (mv rfl) rfl fun a w hS => st1 hS (mv rfl) rfl fun a w hS => st1 hS (bin rfl rfl rfl) rfl fun a w hS => st1x (v := Value.int .i64) (x0 := (w64 (b_2301 - m2300))) hS (asg rfl) rfl fun j2305 a w hz hS => ?_
 have hM := lt_to hz hM; clear hz
 refine wpList_nil <| then_n <| seq_joinJ (fun a w => ∃ (rw2480 : List (Row 2)) (data2481 : (List T_huff_packet)) (f2482 : Frag) (i2486 : Int), Ss 58 [] [(0, .slice A2293 rw2480.length c2294), (2, .int .i64 m2300), (4, fnv 57 [] []), (10, .int .i64 i2486)] H [p2292, f2482] F a w ∧ (Vec 112 (Row.v (sz := 2)) 2 A2293 rw2480 c2294 f2482) ∧ (RelL (R_huff_packet p2292) data2481 rw2480) ∧ (rw2480.length = rw2295.length) ∧ (slices_rotateCmpFunc_huff_packet__b6e1_7e8b.j2 K m2300 data2481 i2486).wp kr kp) (fun J2487 hJ2487 => ?_) ?_
 ·refine wp_block ?_
  refine s_loopJ (fun k2460 a w => ∃ (rw2452 : List (Row 2)) (data2453 : (List T_huff_packet)) (f2454 : Frag) (i2458 : Int) (j2459 : Int), Ss 58 [] [(0, .slice A2293 rw2452.length c2294), (2, .int .i64 m2300), (4, fnv 57 [] []), (10, .int .i64 i2458), (11, .int .i64 j2459)] H [p2292, f2454] F a w ∧ (Vec 112 (Row.v (sz := 2)) 2 A2293 rw2452 c2294 f2454) ∧ (RelL (R_huff_packet p2292) data2453 rw2452) ∧ (rw2452.length = rw2295.length) ∧ (slices_rotateCmpFunc_huff_packet__b6e1_7e8b.l1 K m2300 k2460 data2453 i2458 j2459).wp kr kp) K ?_ ?_ ?_
  ·exact ⟨rw2295, data2291, f2297, i2304, j2305, hS.to [0, 1] (by kernel_rfl) ⟨rfl, rfl, rfl, rfl, rfl, trivial⟩, hV2298, hr2296, hz2303, hM⟩
  ·intro a w hI; obtain ⟨_, _, _, _, _, _, _, _, _, hM⟩ := hI; exact wp_fail hM
  ·intro k2460 a w hI J2479 hJ2479
   obtain ⟨rw2452, data2453, f2454, i2458, j2459, hS, hV2455, hr2456, hz2457, hM⟩ := hI
   rw [slices_rotateCmpFunc_huff_packet__b6e1_7e8b.l1] at hM
   refine wp_seq <| wp_seq <| wp_region_list <| st1 hS (mv rfl) rfl fun a w hS => st1 hS (mv rfl) rfl fun a w hS => st1 hS (bin rfl rfl rfl) rfl fun a w hS => wpList_nil <| then_n <| s_cond hS rfl hM (fun hb2461 hM => ?_) (fun hb2461 hM => ?_)
   ·refine wp_skip ?_
    refine then_n <| wp_block <| wp_seq <| wp_region_list <| st1 hS (mv rfl) rfl fun a w hS => st1 hS (mv rfl) rfl fun a w hS => st1 hS (bin rfl rfl rfl) rfl fun a w hS => wpList_nil <| then_n <| s_cond hS rfl hM (fun hb2462 hM => ?_) (fun hb2462 hM => ?_)
    ·refine wp_seq ?_
     refine wp_region_list <| st1 hS (mv rfl) rfl fun a w hS => st1 hS (mv rfl) rfl fun a w hS => st1 hS (mv rfl) rfl fun a w hS => st1 hS (bin rfl rfl rfl) rfl fun a w hS => st1 hS (mv rfl) rfl fun a w hS => st1 hS (mv rfl) rfl fun a w hS => st1 hS (mv rfl) rfl fun a w hS => s_call hS rfl Tryd.call109 (slices_swapRangeCmpFunc_huff_packet__b6e1_7e8b_c hG K data2453 (w64 (m2300 - i2458)) m2300 j2459 p2292 A2293 c2294 rw2452 f2454 hr2456 hV2455 (hS.st.part 2 [0, 1] (by kernel_rfl)) (wp_bind hM) (fun rw2463 data2464 f2465 w hM h2466 h2467 h2468 hst => s_back hS.ev hst.appF rfl fun hS => ?_))
     replace hS : Ss _ _ _ H [p2292, f2465] F _ _ := hS
     have hz2469 := Eq.trans h2468 hz2457
     replace hS := hS.re 0 (u := .slice A2293 rw2452.length c2294) (v := .slice A2293 rw2463.length c2294) rfl (by rw [h2468])
     replace hS := hS.re 24 (u := .slice A2293 rw2452.length c2294) (v := .slice A2293 rw2463.length c2294) rfl (by rw [h2468])
     refine wpList_nil <| then_n <| wp_region_list <| st1 hS (mv rfl) rfl fun a w hS => st1 hS (mv rfl) rfl fun a w hS => st1 hS (bin rfl rfl rfl) rfl fun a w hS => st1x (v := Value.int .i64) (x0 := (w64 (i2458 - j2459))) hS (asg rfl) rfl fun i2470 a w hz hS => ?_
     have hM := lt_to hz hM; clear hz
     refine wpList_nil <| blk_n (then_n ?_)
     exact hJ2479 _ _ ⟨rw2463, data2464, f2465, i2470, j2459, hS.to [0, 1] (by kernel_rfl) ⟨rfl, rfl, rfl, rfl, rfl, trivial⟩, h2466, h2467, hz2469, hM⟩
    ·refine wp_seq ?_
     refine wp_region_list <| st1 hS (mv rfl) rfl fun a w hS => st1 hS (mv rfl) rfl fun a w hS => st1 hS (mv rfl) rfl fun a w hS => st1 hS (bin rfl rfl rfl) rfl fun a w hS => st1 hS (mv rfl) rfl fun a w hS => st1 hS (mv rfl) rfl fun a w hS => st1 hS (bin rfl rfl rfl) rfl fun a w hS => st1 hS (mv rfl) rfl fun a w hS => st1 hS (bin rfl rfl rfl) rfl fun a w hS => st1 hS (mv rfl) rfl fun a w hS => st1 hS (mv rfl) rfl fun a w hS => s_call hS rfl Tryd.call109 (slices_swapRangeCmpFunc_huff_packet__b6e1_7e8b_c hG K data2453 (w64 (m2300 - i2458)) (w64 ((w64 (m2300 + j2459)) - i2458)) i2458 p2292 A2293 c2294 rw2452 f2454 hr2456 hV2455 (hS.st.part 2 [0, 1] (by kernel_rfl)) (wp_bind hM) (fun rw2471 data2472 f2473 w hM h2474 h2475 h2476 hst => s_back hS.ev hst.appF rfl fun hS => ?_))
     replace hS : Ss _ _ _ H [p2292, f2473] F _ _ := hS
     have hz2477 := Eq.trans h2476 hz2457
     replace hS := hS.re 0 (u := .slice A2293 rw2452.length c2294) (v := .slice A2293 rw2471.length c2294) rfl (by rw [h2476])
     replace hS := hS.re 35 (u := .slice A2293 rw2452.length c2294) (v := .slice A2293 rw2471.length c2294) rfl (by rw [h2476])
     refine wpList_nil <| then_n <| wp_region_list <| st1 hS (mv rfl) rfl fun a w hS => st1 hS (mv rfl) rfl fun a w hS => st1 hS (bin rfl rfl rfl) rfl fun a w hS => st1x (v := Value.int .i64) (x0 := (w64 (j2459 - i2458))) hS (asg rfl) rfl fun j2478 a w hz hS => ?_
     have hM := lt_to hz hM; clear hz
     refine wpList_nil <| blk_n (then_n ?_)
     exact hJ2479 _ _ ⟨rw2471, data2472, f2473, i2458, j2478, hS.to [0, 1] (by kernel_rfl) ⟨rfl, rfl, rfl, rfl, rfl, trivial⟩, h2474, h2475, hz2477, hM⟩
   ·refine wp_exit ?_
    refine then_ex (then_ex (blk_same (then_n ?_)))
    exact hJ2487 _ _ ⟨rw2452, data2453, f2454, i2458, hS.to [0, 1] (by kernel_rfl) ⟨rfl, rfl, rfl, rfl, trivial⟩, hV2455, hr2456, hz2457, hM⟩
 ·intro a w hI
  obtain ⟨rw2480, data2481, f2482, i2486, hS, hV2483, hr2484, hz2485, hM⟩ := hI
  rw [slices_rotateCmpFunc_huff_packet__b6e1_7e8b.j2] at hM
  refine wp_region_list <| st1 hS (mv rfl) rfl fun a w hS => st1 hS (mv rfl) rfl fun a w hS => st1 hS (mv rfl) rfl fun a w hS => st1 hS (bin rfl rfl rfl) rfl fun a w hS => st1 hS (mv rfl) rfl fun a w hS => st1 hS (mv rfl) rfl fun a w hS => st1 hS (mv rfl) rfl fun a w hS => s_call hS rfl Tryd.call109 (slices_swapRangeCmpFunc_huff_packet__b6e1_7e8b_c hG K data2481 (w64 (m2300 - i2486)) m2300 i2486 p2292 A2293 c2294 rw2480 f2482 hr2484 hV2483 (hS.st.part 2 [0, 1] (by kernel_rfl)) (wp_bind hM) (fun rw2488 data2489 f2490 w hM h2491 h2492 h2493 hst => s_back hS.ev hst.appF rfl fun hS => ?_))
  replace hS : Ss _ _ _ H [p2292, f2490] F _ _ := hS
  have hz2494 := Eq.trans h2493 hz2485
  replace hS := hS.re 0 (u := .slice A2293 rw2480.length c2294) (v := .slice A2293 rw2488.length c2294) rfl (by rw [h2493])
  replace hS := hS.re 50 (u := .slice A2293 rw2480.length c2294) (v := .slice A2293 rw2488.length c2294) rfl (by rw [h2493])
  refine wpList_nil ?_
  exact s_end (rs := []) hS rfl rfl (hret rw2488 data2489 f2490 w (wp_ok hM) h2491 h2492 hz2494 (hS.st.pick [0, 1] (by kernel_rfl)))
end Go.TrydS
