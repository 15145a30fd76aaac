/- Printed by a program of mine: each Go function answers what its model answers; conditions: what each theorem asks of memory. -/
import Derived.Test.YtjgcmokfinicnaaDoorMbmcgp
import Derived.Test.YtjgcmokfinicnaaDoorChecked
set_option linter.unusedVariables false
set_option linter.unusedSimpArgs false
set_option maxRecDepth 100000
namespace Go.TrydS
open Go Go.Sl Go.Mo Go.Proofs
attribute [local irreducible] Res.wp
theorem mixed : Tryd.prog.follows .mixedOrders = true := by kernel_rfl
def _root_.Go.Mo.T_api_Token.cells (x : T_api_Token) : List Value := [.int .u8 x.Lit_, .int .i64 x.Len_, .int .i64 x.Dist_]
def _root_.Go.Mo.T_bits_place.cells (x : T_bits_place) : List Value := [.int .i64 x.at_]
def _root_.Go.Mo.T_deflate_part.cells (x : T_deflate_part) : List Value := [.int .i64 x.symbol_, .int .i64 x.bits_, .int .u32 x.more_]
def _root_.Go.Mo.T_deflate_item.cells (x : T_deflate_item) : List Value := [.int .i64 x.symbol_, .int .i64 x.more_, .int .i64 x.bits_]
theorem X.el3 : El Tryd.prog 3 1 8 := ⟨_, _, Tryd.typeInfo3, rfl, rfl, rfl, rfl⟩
theorem X.el5 : El Tryd.prog 5 1 1 := ⟨_, _, Tryd.typeInfo5, rfl, rfl, rfl, rfl⟩
theorem X.el32 : El Tryd.prog 32 3 24 := ⟨_, _, Tryd.typeInfo32, rfl, rfl, rfl, rfl⟩
theorem X.el45 : El Tryd.prog 45 1 24 := ⟨_, _, Tryd.typeInfo45, rfl, rfl, rfl, rfl⟩
theorem X.el75 : El Tryd.prog 75 3 24 := ⟨_, _, Tryd.typeInfo75, rfl, rfl, rfl, rfl⟩
theorem X.el110 : El Tryd.prog 110 1 24 := ⟨_, _, Tryd.typeInfo110, rfl, rfl, rfl, rfl⟩
theorem X.el112 : El Tryd.prog 112 2 32 := ⟨_, _, Tryd.typeInfo112, rfl, rfl, rfl, rfl⟩
theorem one_t3 : ∀ x, ∀ u ∈ (ci .i64) x, u.oneCell' = true := fun x u hu => by cases hu with | head => rfl | tail _ h => cases h
theorem one_t5 : ∀ x, ∀ u ∈ (ci .u8) x, u.oneCell' = true := fun x u hu => by cases hu with | head => rfl | tail _ h => cases h
theorem one_t32 : ∀ x, ∀ u ∈ T_api_Token.cells x, u.oneCell' = true := by
  intro x u hu
  simp only [T_api_Token.cells, List.mem_cons, List.not_mem_nil, or_false] at hu
  rcases hu with rfl | rfl | rfl <;> rfl
theorem one_t75 : ∀ x, ∀ u ∈ T_deflate_item.cells x, u.oneCell' = true := by
  intro x u hu
  simp only [T_deflate_item.cells, List.mem_cons, List.not_mem_nil, or_false] at hu
  rcases hu with rfl | rfl | rfl <;> rfl
structure Gl (H : Imm) : Prop where
  g0 : ∃ T fr, H 0 = some (.cells ⟨tab_deflate_order.flatMap (ci .i64)⟩ T fr)

theorem match_fine_c {H : Imm} {F : List Frag} {w : World} {R : Ending → World → Prop} {kr : Bool → Prop} {kp : Value → Prop} (hG : Gl H) (K : Nat) (t32 : T_api_Token)
    (hS : St w H [] F) (hm : (match_fine.m K t32).wp kr kp)
    (hret : ∀ (x39 : Bool) (w : World), kr x39 → St w H [] F → R (.returned (.bool x39)) w) :
    Calls Tryd.prog 74 ⟨[.agg ⟨[.int .u8 t32.Lit_, .int .i64 t32.Len_, .int .i64 t32.Dist_]⟩]⟩ w R := by
 refine enter Tryd.func74 rfl Tryd.ntmps74 rfl hS fun a w hS => ?_
 have hM := hm; clear hm
 rw [match_fine.m] at hM
 refine wp_seq <| wp_region_list <| bx ([.int .u8 t32.Lit_, .int .i64 t32.Len_, .int .i64 t32.Dist_]) hS rfl rfl rfl fun w b33 f34 hB35 hS => st1 hS (asg rfl) rfl fun a w hS => wpList_nil <| then_n <| wp_seq <| wp_seq <| wp_region_list <| st1 hS (fad rfl Tryd.runUnderlying32 rfl Tryd.sizeOf3 rfl) rfl fun a w hS => st1 hS (ldb 0 rfl hB35 rfl rfl Tryd.isAgg3) rfl fun a w hS => st1 hS (bin rfl rfl rfl) rfl fun a w hS => wpList_nil <| then_n <| s_cond hS rfl hM (fun hb36 hM => ?_) (fun hb36 hM => ?_)
 ·refine wp_seq ?_
  refine wp_region_list <| st1 hS (fad rfl Tryd.runUnderlying32 rfl Tryd.sizeOf3 rfl) rfl fun a w hS => st1 hS (ldb 0 rfl hB35 rfl rfl Tryd.isAgg3) rfl fun a w hS => st1 hS (bin rfl rfl rfl) rfl fun a w hS => st1x (v := Value.bool) (x0 := (t32.Len_ == (0 : Int))) hS (asg rfl) rfl fun v37 a w hz hS => ?_
  have hM := lt_to hz hM; clear hz
  refine wpList_nil <| then_n <| wp_ret <| then_ret ?_
  exact s_ret (rs := [2]) hS rfl rfl (hret v37 w (wp_ok hM) (hS.st.pick [] (by kernel_rfl)))
 ·refine wp_skip ?_
  refine then_n <| wp_seq <| wp_region_list <| st1 hS (fad rfl Tryd.runUnderlying32 rfl Tryd.sizeOf3 rfl) rfl fun a w hS => st1 hS (ldb 0 rfl hB35 rfl rfl Tryd.isAgg3) rfl fun a w hS => st1 hS (bin rfl rfl rfl) rfl fun a w hS => st1 hS (mv rfl) rfl fun a w hS => g_op 3 true 12 (b := (decide (t32.Dist_ > (0 : Int)))) (r := (decide (t32.Dist_ ≤ (32768 : Int)))) hS rfl rfl rfl rfl rfl rfl rfl (fun hb a w hS K hK => ?_) rfl fun a w hS => ?_
  ·refine st1g hS rfl rfl rfl hb (fad rfl Tryd.runUnderlying32 rfl Tryd.sizeOf3 rfl) rfl fun a w hS => ?_
   refine st1g hS rfl rfl rfl hb (ldb 0 rfl hB35 rfl rfl Tryd.isAgg3) rfl fun a w hS => st1g hS rfl rfl rfl hb (bin rfl rfl rfl) rfl fun a w hS => ?_
   exact wpList_nil (hK _ _ (hS.up 3 rfl rfl))
  refine st1 hS (mv rfl) rfl fun a w hS => g_op 3 true 17 (b := ((decide (t32.Dist_ > (0 : Int))) && (decide (t32.Dist_ ≤ (32768 : Int))))) (r := (decide (t32.Len_ ≥ (3 : Int)))) hS rfl rfl rfl rfl rfl rfl rfl (fun hb a w hS K hK => ?_) rfl fun a w hS => ?_
  ·refine st1g hS rfl rfl rfl hb (fad rfl Tryd.runUnderlying32 rfl Tryd.sizeOf3 rfl) rfl fun a w hS => ?_
   refine st1g hS rfl rfl rfl hb (ldb 0 rfl hB35 rfl rfl Tryd.isAgg3) rfl fun a w hS => st1g hS rfl rfl rfl hb (bin rfl rfl rfl) rfl fun a w hS => ?_
   exact wpList_nil (hK _ _ (hS.up 3 rfl rfl))
  refine st1 hS (mv rfl) rfl fun a w hS => g_op 3 true 22 (b := (((decide (t32.Dist_ > (0 : Int))) && (decide (t32.Dist_ ≤ (32768 : Int)))) && (decide (t32.Len_ ≥ (3 : Int))))) (r := (decide (t32.Len_ ≤ (258 : Int)))) hS rfl rfl rfl rfl rfl rfl rfl (fun hb a w hS K hK => ?_) rfl fun a w hS => ?_
  ·refine st1g hS rfl rfl rfl hb (fad rfl Tryd.runUnderlying32 rfl Tryd.sizeOf3 rfl) rfl fun a w hS => ?_
   refine st1g hS rfl rfl rfl hb (ldb 0 rfl hB35 rfl rfl Tryd.isAgg3) rfl fun a w hS => st1g hS rfl rfl rfl hb (bin rfl rfl rfl) rfl fun a w hS => ?_
   exact wpList_nil (hK _ _ (hS.up 3 rfl rfl))
  refine st1 hS (mv rfl) rfl fun a w hS => g_op 3 true 27 (b := ((((decide (t32.Dist_ > (0 : Int))) && (decide (t32.Dist_ ≤ (32768 : Int)))) && (decide (t32.Len_ ≥ (3 : Int)))) && (decide (t32.Len_ ≤ (258 : Int))))) (r := (t32.Lit_ == (0 : Int))) hS rfl rfl rfl rfl rfl rfl rfl (fun hb a w hS K hK => ?_) rfl fun a w hS => ?_
  ·refine st1g hS rfl rfl rfl hb (fad rfl Tryd.runUnderlying32 rfl Tryd.sizeOf5 rfl) rfl fun a w hS => ?_
   refine st1g hS rfl rfl rfl hb (ldb 0 rfl hB35 rfl rfl Tryd.isAgg5) rfl fun a w hS => st1g hS rfl rfl rfl hb (bin rfl rfl rfl) rfl fun a w hS => ?_
   exact wpList_nil (hK _ _ (hS.up 3 rfl rfl))
  refine st1x (v := Value.bool) (x0 := (((((decide (t32.Dist_ > (0 : Int))) && (decide (t32.Dist_ ≤ (32768 : Int)))) && (decide (t32.Len_ ≥ (3 : Int)))) && (decide (t32.Len_ ≤ (258 : Int)))) && (t32.Lit_ == (0 : Int)))) hS (asg rfl) rfl fun v38 a w hz hS => ?_
  have hM := lt_to hz hM; clear hz
  refine wpList_nil <| then_n <| wp_ret ?_
  exact s_ret (rs := [2]) hS rfl rfl (hret v38 w (wp_ok hM) (hS.st.pick [] (by kernel_rfl)))

theorem match_more_c {H : Imm} {F : List Frag} {w : World} {R : Ending → World → Prop} {kr : Int → Prop} {kp : Value → Prop} (hG : Gl H) (K : Nat) (n_54 : Int) (told55 : Int)
    (hS : St w H [] F) (hm : (match_more.m K n_54 told55).wp kr kp)
    (hret : ∀ (x64 : Int) (w : World), kr x64 → St w H [] F → R (.returned (.int .i64 x64)) w) :
    Calls Tryd.prog 76 ⟨[.int .i64 n_54, .int .i64 told55]⟩ w R := by
 refine enter Tryd.func76 rfl Tryd.ntmps76 rfl hS fun a w hS => ?_
 have hM := hm; clear hm
 rw [match_more.m] at hM
 refine wp_seq <| wp_region_list <| st1 hS (asg rfl) rfl fun a w hS => wpList_nil <| then_n <| wp_seq <| wp_region_list <| st1 hS (asg rfl) rfl fun a w hS => wpList_nil <| then_n <| wp_seq <| wp_block <| s_loopJ (fun k58 a w => ∃ (n_56 : Int) (k_57 : Int), Ss 15 [] [(0, .int .i64 n_56), (1, .int .i64 told55), (5, .int .i64 k_57)] H [] F a w ∧ (match_more.l1 K told55 k58 n_56 k_57).wp kr kp) K ?_ ?_ ?_
 ·exact ⟨n_54, (0 : Int), hS.to [] (by kernel_rfl) ⟨rfl, rfl, rfl, trivial⟩, hM⟩
 ·intro a w hI; obtain ⟨_, _, _, hM⟩ := hI; exact wp_fail hM
 ·intro k58 a w hI J63 hJ63
  obtain ⟨n_56, k_57, hS, hM⟩ := hI
  rw [match_more.l1] at hM
  refine wp_seq <| wp_seq <| wp_region_list <| st1 hS (mv rfl) rfl fun a w hS => st1 hS (mv rfl) rfl fun a w hS => ?_
  obtain ⟨hk59, hM⟩ := wp_chk hM
  refine st1 hS (shl rfl rfl hk59) rfl fun a w hS => st1 hS (bin rfl rfl rfl) rfl fun a w hS => wpList_nil <| then_n <| s_cond hS rfl hM (fun hb60 hM => ?_) (fun hb60 hM => ?_)
  ·refine wp_skip ?_
   refine then_n <| wp_block <| wp_seq <| wp_region_list <| st1 hS (mv rfl) rfl fun a w hS => st1 hS (shr rfl rfl rfl) rfl fun a w hS => st1x (v := Value.int .i64) (x0 := (ishr .i64 n_56 (1 : Int))) hS (asg rfl) rfl fun n_61 a w hz hS => ?_
   have hM := lt_to hz hM; clear hz
   refine wpList_nil <| then_n <| wp_region_list <| st1 hS (mv rfl) rfl fun a w hS => st1 hS (bin rfl rfl rfl) rfl fun a w hS => st1x (v := Value.int .i64) (x0 := (w64 (k_57 + (1 : Int)))) hS (asg rfl) rfl fun k_62 a w hz hS => ?_
   have hM := lt_to hz hM; clear hz
   refine wpList_nil <| blk_n (then_n ?_)
   exact hJ63 _ _ ⟨n_61, k_62, hS.to [] (by kernel_rfl) ⟨rfl, rfl, rfl, trivial⟩, hM⟩
  ·refine wp_exit ?_
   refine then_ex (then_ex (blk_same (then_n ?_)))
   refine wp_seq <| wp_region_list <| st1 hS (mv rfl) rfl fun a w hS => st1 hS (asg rfl) rfl fun a w hS => wpList_nil <| then_n <| wp_ret ?_
   exact s_ret (rs := [4]) hS rfl rfl (hret k_57 w (wp_ok hM) (hS.st.pick [] (by kernel_rfl)))

theorem match_lengthBits_c {H : Imm} {F : List Frag} {w : World} {R : Ending → World → Prop} {kr : Int → Prop} {kp : Value → Prop} (hG : Gl H) (K : Nat) (n_49 : Int)
    (hS : St w H [] F) (hm : (match_lengthBits.m K n_49).wp kr kp)
    (hret : ∀ (x69 : Int) (w : World), kr x69 → St w H [] F → R (.returned (.int .i64 x69)) w) :
    Calls Tryd.prog 75 ⟨[.int .i64 n_49]⟩ w R := by
 refine enter Tryd.func75 rfl Tryd.ntmps75 rfl hS fun a w hS => ?_
 have hM := hm; clear hm
 rw [match_lengthBits.m] at hM
 refine wp_seq <| wp_region_list <| st1 hS (asg rfl) rfl fun a w hS => wpList_nil <| then_n <| wp_seq <| wp_block <| wp_seq <| wp_region_list <| st1 hS (mv rfl) rfl fun a w hS => st1 hS (bin rfl rfl rfl) rfl fun a w hS => st1x (v := Value.bool) (x0 := (n_49 == (258 : Int))) hS (asg rfl) rfl fun v50 a w hz hS => ?_
 have hM := lt_to hz hM; clear hz
 refine wpList_nil <| then_n <| s_cond hS rfl hM (fun hb51 hM => ?_) (fun hb51 hM => ?_)
 ·refine wp_seq ?_
  refine wp_region_list <| st1 hS (asg rfl) rfl fun a w hS => wpList_nil <| then_n <| wp_ret <| blk_ret (then_ret ?_)
  exact s_ret (rs := [2]) hS rfl rfl (hret (8 : Int) w (wp_ok hM) (hS.st.pick [] (by kernel_rfl)))
 ·refine wp_seq ?_
  refine wp_region_list <| st1 hS (mv rfl) rfl fun a w hS => st1 hS (bin rfl rfl rfl) rfl fun a w hS => st1x (v := Value.bool) (x0 := (decide (n_49 ≥ (115 : Int)))) hS (asg rfl) rfl fun v52 a w hz hS => ?_
  have hM := lt_to hz hM; clear hz
  refine wpList_nil <| then_n <| s_cond hS rfl hM (fun hb53 hM => ?_) (fun hb53 hM => ?_)
  ·refine wp_seq ?_
   refine wp_region_list <| st1 hS (mv rfl) rfl fun a w hS => st1 hS (bin rfl rfl rfl) rfl fun a w hS => s_call hS rfl Tryd.call76 (match_more_c hG K (w64 (n_49 - (3 : Int))) (2 : Int) (hS.st.part 0 [] (by kernel_rfl)) (wp_bind hM) (fun x65 w hM  hst => s_back hS.ev hst.appF rfl fun hS => ?_))
   replace hS : Ss _ _ _ H [] F _ _ := hS
   refine st1 hS (bin rfl rfl rfl) rfl fun a w hS => st1x (v := Value.int .i64) (x0 := (w64 ((8 : Int) + x65))) hS (asg rfl) rfl fun v66 a w hz hS => ?_
   have hM := lt_to hz hM; clear hz
   refine wpList_nil <| then_n <| wp_ret <| blk_ret (then_ret ?_)
   exact s_ret (rs := [2]) hS rfl rfl (hret v66 w (wp_ok hM) (hS.st.pick [] (by kernel_rfl)))
  ·refine wp_skip ?_
   refine blk_n (then_n ?_)
   refine wp_seq <| wp_region_list <| st1 hS (mv rfl) rfl fun a w hS => st1 hS (bin rfl rfl rfl) rfl fun a w hS => s_call hS rfl Tryd.call76 (match_more_c hG K (w64 (n_49 - (3 : Int))) (2 : Int) (hS.st.part 0 [] (by kernel_rfl)) (wp_bind hM) (fun x67 w hM  hst => s_back hS.ev hst.appF rfl fun hS => ?_))
   replace hS : Ss _ _ _ H [] F _ _ := hS
   refine st1 hS (bin rfl rfl rfl) rfl fun a w hS => st1x (v := Value.int .i64) (x0 := (w64 ((7 : Int) + x67))) hS (asg rfl) rfl fun v68 a w hz hS => ?_
   have hM := lt_to hz hM; clear hz
   refine wpList_nil <| then_n <| wp_ret ?_
   exact s_ret (rs := [2]) hS rfl rfl (hret v68 w (wp_ok hM) (hS.st.pick [] (by kernel_rfl)))

theorem match_Cost_c {H : Imm} {F : List Frag} {w : World} {R : Ending → World → Prop} {kr : (Int × Int) → Prop} {kp : Value → Prop} (hG : Gl H) (K : Nat) (l_17 : List T_api_Token) (A18 : Option Addr) (c19 : Nat) (hr20 : Rdl H [] F T_api_Token.cells A18 l_17) (hc21 : l_17.length ≤ c19)
    (hS : St w H [] F) (hm : (match_Cost.m K l_17).wp kr kp)
    (hret : ∀ (x75 : Int) (x76 : Int) (w : World), kr (x75, x76) → St w H [] F → R (.returned (.tuple ⟨[.int .i64 x75, .int .i64 x76]⟩)) w) :
    Calls Tryd.prog 49 ⟨[.slice A18 l_17.length c19]⟩ w R := by
 refine enter Tryd.func49 rfl Tryd.ntmps49 rfl hS fun a w hS => ?_
 have hM := hm; clear hm
 rw [match_Cost.m] at hM
 refine wp_seq <| wp_region_list <| st1 hS (asg rfl) rfl fun a w hS => st1 hS (asg rfl) rfl fun a w hS => wpList_nil <| then_n <| wp_seq <| wp_region_list <| st1 hS (asg rfl) rfl fun a w hS => wpList_nil <| then_n <| wp_seq <| wp_seq <| wp_region_list <| st1 hS (mv rfl) rfl fun a w hS => st1 hS (lenV rfl Tryd.runUnderlying25) rfl fun a w hS => st1 hS (mv rfl) rfl fun a w hS => wpList_nil <| then_n <| wp_block <| s_loopJ (fun k24 a w => ∃ (n_22 : Int) (v23 : Int), Ss 47 [] [(4, .int .i64 n_22), (7, .slice A18 l_17.length c19), (8, .int .i64 (l_17.length : Int)), (9, .int .i64 v23)] H [] F a w ∧ (match_Cost.l1 K l_17 k24 n_22 v23).wp kr kp) K ?_ ?_ ?_
 ·exact ⟨(7 : Int), (0 : Int), hS.to [] (by kernel_rfl) ⟨rfl, rfl, rfl, rfl, trivial⟩, hM⟩
 ·intro a w hI; obtain ⟨_, _, _, hM⟩ := hI; exact wp_fail hM
 ·intro k24 a w hI J74 hJ74
  obtain ⟨n_22, v23, hS, hM⟩ := hI
  rw [match_Cost.l1] at hM
  refine wp_seq <| wp_region_list <| st1 hS (bin rfl rfl rfl) rfl fun a w hS => wpList_nil <| then_n <| wp_seq <| s_cond hS rfl hM (fun hb25 hM => ?_) (fun hb25 hM => ?_)
  ·refine wp_skip ?_
   refine then_n <| wp_seq <| wp_block <| wp_seq <| wp_region_list ?_
   obtain ⟨hk26, hM⟩ := wp_chk hM
   refine st1 hS (ixV rfl rfl Tryd.runUnderlying25 Tryd.sizeOf32 hr20.wk (fun _ => rfl) rfl hk26) rfl fun a w hS => st1 hS (ldVA rfl hr20.wk (fun _ => rfl) hk26 Tryd.isAgg32 Tryd.sizeOf32 rfl) rfl fun a w hS => alc ([.int .u8 (0 : Int), .int .i64 (0 : Int), .int .i64 (0 : Int)]) hS Tryd.zeroValue32 rfl rfl fun w b27 f28 hB29 hS => stB 0 ([.int .u8 ((rd l_17 v23).Lit_), .int .i64 ((rd l_17 v23).Len_), .int .i64 ((rd l_17 v23).Dist_)]) ([.int .u8 ((rd l_17 v23).Lit_), .int .i64 ((rd l_17 v23).Len_), .int .i64 ((rd l_17 v23).Dist_)]) hS rfl rfl hB29 rfl rfl Tryd.sizeOf32 (by simp [Value.oneCell']) (Nat.le_of_ble_eq_true rfl) rfl fun w f30 hB31 hS => wpList_nil <| then_n <| wp_block <| wp_seq <| wp_region_list <| st1 hS (ldbA 0 rfl hB31 rfl ([.int .u8 ((rd l_17 v23).Lit_), .int .i64 ((rd l_17 v23).Len_), .int .i64 ((rd l_17 v23).Dist_)]) rfl rfl Tryd.isAgg32 Tryd.sizeOf32) rfl fun a w hS => s_call hS rfl Tryd.call74 (match_fine_c hG K (T_api_Token.mk ((rd l_17 v23).Lit_) ((rd l_17 v23).Len_) ((rd l_17 v23).Dist_)) (hS.st.part 0 [0] (by kernel_rfl)) (wp_bind hM) (fun x40 w hM  hst => s_back hS.ev hst.appF rfl fun hS => ?_))
   replace hS : Ss _ _ _ H [f30] F _ _ := hS
   refine st1 hS (un rfl rfl) rfl fun a w hS => st1x (v := Value.bool) (x0 := (!x40)) hS (asg rfl) rfl fun v41 a w hz hS => ?_
   have hM := lt_to hz hM; clear hz
   refine wpList_nil <| then_n <| s_cond hS rfl hM (fun hb42 hM => ?_) (fun hb42 hM => ?_)
   ·refine wp_seq ?_
    refine wp_region_list <| st1 hS (asg rfl) rfl fun a w hS => st1 hS (asg rfl) rfl fun a w hS => wpList_nil <| then_n <| wp_ret <| blk_ret (blk_ret (then_ret (then_ret (blk_ret (then_ret ?_)))))
    exact s_ret (rs := [2, 3]) hS rfl rfl (hret (0 : Int) (1 : Int) w (wp_ok hM) (hS.st.pick [] (by kernel_rfl)))
   ·refine wp_seq ?_
    refine wp_region_list <| st1 hS (fad rfl Tryd.runUnderlying32 rfl Tryd.sizeOf3 rfl) rfl fun a w hS => st1 hS (ldb 0 rfl hB31 rfl rfl Tryd.isAgg3) rfl fun a w hS => st1 hS (bin rfl rfl rfl) rfl fun a w hS => st1 hS (mv rfl) rfl fun a w hS => g_op 3 true 32 (b := ((rd l_17 v23).Dist_ == (0 : Int))) (r := (decide ((rd l_17 v23).Lit_ < (144 : Int)))) hS rfl rfl rfl rfl rfl rfl rfl (fun hb a w hS K hK => ?_) rfl fun a w hS => ?_
    ·refine st1g hS rfl rfl rfl hb (fad rfl Tryd.runUnderlying32 rfl Tryd.sizeOf5 rfl) rfl fun a w hS => ?_
     refine st1g hS rfl rfl rfl hb (ldb 0 rfl hB31 rfl rfl Tryd.isAgg5) rfl fun a w hS => st1g hS rfl rfl rfl hb (bin rfl rfl rfl) rfl fun a w hS => ?_
     exact wpList_nil (hK _ _ (hS.up 3 rfl rfl))
    refine st1x (v := Value.bool) (x0 := (((rd l_17 v23).Dist_ == (0 : Int)) && (decide ((rd l_17 v23).Lit_ < (144 : Int))))) hS (asg rfl) rfl fun v43 a w hz hS => ?_
    have hM := lt_to hz hM; clear hz
    refine wpList_nil <| then_n <| s_cond hS rfl hM (fun hb44 hM => ?_) (fun hb44 hM => ?_)
    ·refine wp_region_list ?_
     refine st1 hS (mv rfl) rfl fun a w hS => st1 hS (bin rfl rfl rfl) rfl fun a w hS => st1x (v := Value.int .i64) (x0 := (w64 (n_22 + (8 : Int)))) hS (asg rfl) rfl fun n_45 a w hz hS => ?_
     have hM := lt_to hz hM; clear hz
     refine wpList_nil <| blk_n (blk_n (then_n ?_))
     refine wp_region_list <| st1 hS (bin rfl rfl rfl) rfl fun a w hS => st1 hS (mv rfl) rfl fun a w hS => wpList_nil <| then_n ?_
     exact hJ74 _ _ ⟨n_45, (w64 (v23 + (1 : Int))), hS.to [] (by kernel_rfl) ⟨rfl, rfl, rfl, rfl, trivial⟩, hM⟩
    ·refine wp_seq ?_
     refine wp_region_list <| st1 hS (fad rfl Tryd.runUnderlying32 rfl Tryd.sizeOf3 rfl) rfl fun a w hS => st1 hS (ldb 0 rfl hB31 rfl rfl Tryd.isAgg3) rfl fun a w hS => st1 hS (bin rfl rfl rfl) rfl fun a w hS => st1x (v := Value.bool) (x0 := ((rd l_17 v23).Dist_ == (0 : Int))) hS (asg rfl) rfl fun v46 a w hz hS => ?_
     have hM := lt_to hz hM; clear hz
     refine wpList_nil <| then_n <| s_cond hS rfl hM (fun hb47 hM => ?_) (fun hb47 hM => ?_)
     ·refine wp_region_list ?_
      refine st1 hS (mv rfl) rfl fun a w hS => st1 hS (bin rfl rfl rfl) rfl fun a w hS => st1x (v := Value.int .i64) (x0 := (w64 (n_22 + (9 : Int)))) hS (asg rfl) rfl fun n_48 a w hz hS => ?_
      have hM := lt_to hz hM; clear hz
      refine wpList_nil <| blk_n (blk_n (then_n ?_))
      refine wp_region_list <| st1 hS (bin rfl rfl rfl) rfl fun a w hS => st1 hS (mv rfl) rfl fun a w hS => wpList_nil <| then_n ?_
      exact hJ74 _ _ ⟨n_48, (w64 (v23 + (1 : Int))), hS.to [] (by kernel_rfl) ⟨rfl, rfl, rfl, rfl, trivial⟩, hM⟩
     ·refine draw_begin (vals := [some (.int .i64 n_22), some (ptr b27 1), some (.int .i64 ((rd l_17 v23).Len_)), none, none, some (ptr b27 2), some (.int .i64 ((rd l_17 v23).Dist_)), some (.int .i64 (w64 ((rd l_17 v23).Dist_ - (1 : Int)))), none, none, none, none]) hS mixed rfl ?_
      intro l w ho hcl hA hst
      refine phq hA hst ho hcl navail nmust 3 [0, 1, 2, 5, 6, 7] rfl rfl rfl rfl rfl (by exact ⟨nR rfl rfl rfl rfl rfl (by exact ovE (mv rfl) rfl), nR rfl rfl rfl rfl rfl (by exact ovE (fad rfl Tryd.runUnderlying32 rfl Tryd.sizeOf3 rfl) rfl), nR rfl rfl rfl rfl rfl (by exact ovE (ldb 0 rfl hB31 rfl rfl Tryd.isAgg3) rfl), nR rfl rfl rfl rfl rfl (by exact ovE (fad rfl Tryd.runUnderlying32 rfl Tryd.sizeOf3 rfl) rfl), nR rfl rfl rfl rfl rfl (by exact ovE (ldb 0 rfl hB31 rfl rfl Tryd.isAgg3) rfl), nR rfl rfl rfl rfl rfl (by exact ovE (bin rfl rfl rfl) rfl), trivial⟩) fun D l a w ho hcl hav hpre hm hE hk hA hst => ?_
      have hS := (Ss.mk hE hst).env2 (e' := [(15, .int .i64 ((rd l_17 v23).Len_))]) ⟨rfl, trivial⟩
      refine op_of_nth rfl <| s_call hS rfl Tryd.call75 (match_lengthBits_c hG K ((rd l_17 v23).Len_) (hS.st.part 0 [0] (by kernel_rfl)) (wp_bind hM) (fun x70 w hM  hst => s_back hS.ev hst.appF rfl fun hS => ?_))
      replace hS : Ss _ _ _ H [f30] F _ _ := hS
      refine wpList_nil (then_n ?_)
      replace hst := hS.st
      obtain ⟨hcl, hmust, hav2, hA⟩ := dn (vals' := [some (.int .i64 n_22), some (ptr b27 1), some (.int .i64 ((rd l_17 v23).Len_)), some (.int .i64 x70), some (.int .i64 (w64 (x70 + (5 : Int)))), some (ptr b27 2), some (.int .i64 ((rd l_17 v23).Dist_)), some (.int .i64 (w64 ((rd l_17 v23).Dist_ - (1 : Int)))), none, none, none, none]) 3 [(2, 3), (1, 2)] hA hcl hav hm hpre hk rfl rfl rfl rfl rfl rfl rfl
      clear hm hav
      refine phq hA hst ho hcl hav2 hmust 8 [0, 4, 5, 6, 7] rfl rfl rfl rfl rfl (by exact ⟨nR rfl rfl rfl rfl rfl (by exact ovE (mv rfl) rfl), nR rfl rfl rfl rfl rfl (by exact ovE (bin rfl rfl rfl) rfl), nR rfl rfl rfl rfl rfl (by exact ovE (fad rfl Tryd.runUnderlying32 rfl Tryd.sizeOf3 rfl) rfl), nR rfl rfl rfl rfl rfl (by exact ovE (ldb 0 rfl hB31 rfl rfl Tryd.isAgg3) rfl), nR rfl rfl rfl rfl rfl (by exact ovE (bin rfl rfl rfl) rfl), trivial⟩) fun D l a w ho hcl hav hpre hm hE hk hA hst => ?_
      have hS := (Ss.mk hE hst).env2 (e' := [(20, .int .i64 (w64 ((rd l_17 v23).Dist_ - (1 : Int))))]) ⟨rfl, trivial⟩
      refine op_of_nth rfl <| s_call hS rfl Tryd.call76 (match_more_c hG K (w64 ((rd l_17 v23).Dist_ - (1 : Int))) (1 : Int) (hS.st.part 0 [0] (by kernel_rfl)) (wp_bind hM) (fun x71 w hM  hst => s_back hS.ev hst.appF rfl fun hS => ?_))
      replace hS : Ss _ _ _ H [f30] F _ _ := hS
      refine wpList_nil (then_n ?_)
      replace hst := hS.st
      obtain ⟨n_72, hz73⟩ : ∃ x, x = (w64 (n_22 + (w64 ((w64 (x70 + (5 : Int))) + x71)))) := ⟨_, rfl⟩
      replace hM := lt_to hz73 hM
      obtain ⟨hcl, hmust, hav2, hA⟩ := dn (vals' := [some (.int .i64 n_22), some (ptr b27 1), some (.int .i64 ((rd l_17 v23).Len_)), some (.int .i64 x70), some (.int .i64 (w64 (x70 + (5 : Int)))), some (ptr b27 2), some (.int .i64 ((rd l_17 v23).Dist_)), some (.int .i64 (w64 ((rd l_17 v23).Dist_ - (1 : Int)))), some (.int .i64 x71), some (.int .i64 (w64 ((w64 (x70 + (5 : Int))) + x71))), some (.int .i64 (w64 (n_22 + (w64 ((w64 (x70 + (5 : Int))) + x71))))), some (.int .i64 n_72)]) 8 [(3, 8), (7, 8), (2, 3), (6, 7), (1, 2), (5, 6)] hA hcl hav hm hpre hk rfl rfl rfl rfl rfl rfl rfl
      clear hm hav
      refine phqE hA hst ho hcl hmust [0, 4, 9, 10, 11] rfl rfl rfl (by exact ⟨nR rfl rfl rfl rfl rfl (by exact ovE (mv rfl) rfl), nR rfl rfl rfl rfl rfl (by exact ovE (bin rfl rfl rfl) rfl), nR rfl rfl rfl rfl rfl (by exact ovE (bin rfl rfl rfl) rfl), nR rfl rfl rfl rfl rfl (by exact ovE (bin rfl rfl rfl) rfl), nR rfl rfl rfl rfl rfl (by exact ovE (asg rfl) (congrArg (Value.int .i64) hz73.symm)), trivial⟩) fun a w hS => ?_
      replace hS := hS.env2 (e' := [(4, .int .i64 n_72), (7, .slice A18 l_17.length c19), (8, .int .i64 (l_17.length : Int)), (9, .int .i64 v23)]) ⟨rfl, rfl, rfl, rfl, trivial⟩
      refine blk_n (blk_n (then_n ?_))
      refine wp_region_list <| st1 hS (bin rfl rfl rfl) rfl fun a w hS => st1 hS (mv rfl) rfl fun a w hS => wpList_nil <| then_n ?_
      exact hJ74 _ _ ⟨n_72, (w64 (v23 + (1 : Int))), hS.to [] (by kernel_rfl) ⟨rfl, rfl, rfl, rfl, trivial⟩, hM⟩
  ·refine wp_exit ?_
   refine then_ex (then_ex (blk_same (then_n ?_)))
   refine wp_seq <| wp_region_list <| st1 hS (mv rfl) rfl fun a w hS => st1 hS (asg rfl) rfl fun a w hS => st1 hS (asg rfl) rfl fun a w hS => wpList_nil <| then_n <| wp_ret ?_
   exact s_ret (rs := [2, 3]) hS rfl rfl (hret n_22 (0 : Int) w (wp_ok hM) (hS.st.pick [] (by kernel_rfl)))

theorem deflate_fine_c {H : Imm} {F : List Frag} {w : World} {R : Ending → World → Prop} {kr : Bool → Prop} {kp : Value → Prop} (hG : Gl H) (K : Nat) (l_12 : List T_api_Token) (A13 : Option Addr) (c14 : Nat) (hr15 : Rdl H [] F T_api_Token.cells A13 l_12) (hc16 : l_12.length ≤ c14)
    (hS : St w H [] F) (hm : (deflate_fine.m K l_12).wp kr kp)
    (hret : ∀ (x80 : Bool) (w : World), kr x80 → St w H [] F → R (.returned (.bool x80)) w) :
    Calls Tryd.prog 21 ⟨[.slice A13 l_12.length c14]⟩ w R := by
 refine enter Tryd.func21 rfl Tryd.ntmps21 rfl hS fun a w hS => ?_
 have hM := hm; clear hm
 rw [deflate_fine.m] at hM
 refine wp_seq <| wp_region_list <| st1 hS (asg rfl) rfl fun a w hS => wpList_nil <| then_n <| wp_seq <| wp_region_list <| st1 hS (mv rfl) rfl fun a w hS => s_call hS rfl Tryd.call49 (match_Cost_c hG K l_12 A13 c14 (hr15.app _) hc16 (hS.st.part 0 [] (by kernel_rfl)) (wp_bind hM) (fun x77 x78 w hM  hst => s_back hS.ev hst.appF rfl fun hS => ?_))
 replace hS : Ss _ _ _ H [] F _ _ := hS
 refine st1 hS (mv rfl) rfl fun a w hS => st1 hS (ex rfl rfl) rfl fun a w hS => st1 hS (ex rfl rfl) rfl fun a w hS => st1 hS (asg rfl) rfl fun a w hS => st1 hS (asg rfl) rfl fun a w hS => wpList_nil <| then_n <| wp_seq <| wp_region_list <| st1 hS (mv rfl) rfl fun a w hS => st1 hS (bin rfl rfl rfl) rfl fun a w hS => st1x (v := Value.bool) (x0 := (x78 == (0 : Int))) hS (asg rfl) rfl fun v79 a w hz hS => ?_
 have hM := lt_to hz hM; clear hz
 refine wpList_nil <| then_n <| wp_ret ?_
 exact s_ret (rs := [2]) hS rfl rfl (hret v79 w (wp_ok hM) (hS.st.pick [] (by kernel_rfl)))

theorem huff_count_c {H : Imm} {F : List Frag} {w : World} {R : Ending → World → Prop} {kr : ((List Int) × Bool) → Prop} {kp : Value → Prop} (hG : Gl H) (K : Nat) (lengths230 : List Int) (A231 : Option Addr) (c232 : Nat) (hr233 : Rdl H [] F (ci .i64) A231 lengths230) (hc234 : lengths230.length ≤ c232)
    (hS : St w H [] F) (hm : (huff_count.m K lengths230).wp kr kp)
    (hret : ∀ (x288 : (List Int)) (x290 : Bool) (w : World), kr (x288, x290) → (x288.length = 16) → St w H [] F → R (.returned (.tuple ⟨[.agg ⟨x288.flatMap (ci .i64)⟩, .bool x290]⟩)) w) :
    Calls Tryd.prog 78 ⟨[.slice A231 lengths230.length c232]⟩ w R := by
 refine enter Tryd.func78 rfl Tryd.ntmps78 rfl hS fun a w hS => ?_
 have hM := hm; clear hm
 rw [huff_count.m] at hM
 refine wp_seq <| wp_region_list <| alc ((List.replicate 16 (0 : Int)).flatMap (ci .i64)) hS Tryd.zeroValue136 rfl rfl fun w b235 f236 hB237 hS => st1 hS (asg rfl) rfl fun a w hS => wpList_nil <| then_n <| wp_seq <| wp_seq <| wp_region_list <| st1 hS (mv rfl) rfl fun a w hS => st1 hS (lenV rfl Tryd.runUnderlying45) rfl fun a w hS => st1 hS (bin rfl rfl rfl) rfl fun a w hS => wpList_nil <| then_n <| s_cond hS rfl hM (fun hb238 hM => ?_) (fun hb238 hM => ?_)
 ·refine wp_seq ?_
  refine wp_region_list <| st1 hS (ldAr (xs := (List.replicate 16 (0 : Int))) (g := (ci .i64)) (pre := []) (post := []) 0 rfl hB237 rfl (by simp) rfl (flat_ln (g := (ci .i64)) (sz := 1) (fun _ => rfl) (List.length_replicate ..)) Tryd.isAgg136 Tryd.sizeOf136) rfl fun a w hS => stAr (xs := (List.replicate 16 (0 : Int))) (ys := (List.replicate 16 (0 : Int))) (g := (ci .i64)) (pre := []) (post := []) 0 hS rfl rfl hB237 rfl (by simp) rfl (flat_ln (g := (ci .i64)) (sz := 1) (fun _ => rfl) (List.length_replicate ..)) (flat_ln (g := (ci .i64)) (sz := 1) (fun _ => rfl) (List.length_replicate ..)) (one_t3) Tryd.sizeOf136 fun w f239 hB240 hS => ?_
  replace hB240 : Blk f239 b235 ((List.replicate 16 (0 : Int)).flatMap (ci .i64)) 136 := by simpa using hB240
  refine st1 hS (asg rfl) rfl fun a w hS => wpList_nil <| then_n <| wp_ret <| then_ret ?_
  exact s_retC (vs := [.agg ⟨(List.replicate 16 (0 : Int)).flatMap (ci .i64)⟩, .bool false]) hS rfl (by exact ⟨rvR 0 rfl hB240 rfl (flat_ln (g := (ci .i64)) (sz := 1) (fun _ => rfl) (List.length_replicate ..)) Tryd.isAgg136 Tryd.sizeOf136, rvT rfl, trivial⟩) (hret (List.replicate 16 (0 : Int)) false w (wp_ok hM) (List.length_replicate ..) (hS.st.pick [] (by kernel_rfl)))
 ·refine wp_skip ?_
  refine then_n <| seq_joinJ (fun a w => ∃ (c_277 : (List Int)) (f279 : Frag), Ss 31 [] [(2, ptr b235 0)] H [f279] F a w ∧ (c_277.length = 16) ∧ (Blk f279 b235 (c_277.flatMap (ci .i64)) 136) ∧ (huff_count.j2 K c_277).wp kr kp) (fun J281 hJ281 => ?_) ?_
  ·refine wp_seq ?_
   refine wp_region_list <| st1 hS (mv rfl) rfl fun a w hS => st1 hS (lenV rfl Tryd.runUnderlying45) rfl fun a w hS => st1 hS (mv rfl) rfl fun a w hS => wpList_nil <| then_n <| wp_block <| s_loopJ (fun k264 a w => ∃ (c_259 : (List Int)) (f261 : Frag) (v263 : Int), Ss 31 [] [(2, ptr b235 0), (10, .slice A231 lengths230.length c232), (11, .int .i64 (lengths230.length : Int)), (12, .int .i64 v263)] H [f261] F a w ∧ (c_259.length = 16) ∧ (Blk f261 b235 (c_259.flatMap (ci .i64)) 136) ∧ (huff_count.l1 K lengths230 k264 c_259 v263).wp kr kp) K ?_ ?_ ?_
   ·exact ⟨(List.replicate 16 (0 : Int)), f236, (0 : Int), hS.to [0] (by kernel_rfl) ⟨rfl, rfl, rfl, rfl, trivial⟩, (List.length_replicate ..), hB237, hM⟩
   ·intro a w hI; obtain ⟨_, _, _, _, _, _, hM⟩ := hI; exact wp_fail hM
   ·intro k264 a w hI J276 hJ276
    obtain ⟨c_259, f261, v263, hS, hl260, hB262, hM⟩ := hI
    rw [huff_count.l1] at hM
    refine wp_seq <| wp_region_list <| st1 hS (bin rfl rfl rfl) rfl fun a w hS => wpList_nil <| then_n <| wp_seq <| s_cond hS rfl hM (fun hb265 hM => ?_) (fun hb265 hM => ?_)
    ·refine wp_skip ?_
     refine then_n <| wp_seq <| wp_block <| wp_seq <| wp_region_list ?_
     obtain ⟨hk266, hM⟩ := wp_chk hM
     refine st1 hS (ixV rfl rfl Tryd.runUnderlying45 Tryd.sizeOf3 hr233.wk (fun _ => rfl) rfl hk266) rfl fun a w hS => st1 hS (ldV0 rfl hr233.wk (fun _ => rfl) hk266 rfl Tryd.isAgg3) rfl fun a w hS => st1x (v := Value.int .i64) (x0 := (rd lengths230 v263)) hS (asg rfl) rfl fun n_267 a w hz hS => ?_
     have hM := lt_to hz hM; clear hz
     refine wpList_nil <| then_n <| wp_seq <| wp_seq <| wp_region_list <| st1 hS (mv rfl) rfl fun a w hS => st1 hS (bin rfl rfl rfl) rfl fun a w hS => st1 hS (mv rfl) rfl fun a w hS => g_op 2 false 18 (b := (decide (n_267 < (0 : Int)))) (r := (decide (n_267 > (15 : Int)))) hS rfl rfl rfl rfl rfl rfl rfl (fun hb a w hS K hK => ?_) rfl fun a w hS => ?_
     ·refine st1g hS rfl rfl rfl hb (mv rfl) rfl fun a w hS => ?_
      refine st1g hS rfl rfl rfl hb (bin rfl rfl rfl) rfl fun a w hS => ?_
      exact wpList_nil (hK _ _ (hS.up 2 rfl rfl))
     refine wpList_nil <| then_n <| s_cond hS rfl hM (fun hb268 hM => ?_) (fun hb268 hM => ?_)
     ·refine wp_seq ?_
      refine wp_region_list <| st1 hS (ldAr (xs := c_259) (g := (ci .i64)) (pre := []) (post := []) 0 rfl hB262 rfl (by simp) rfl (flat_ln (g := (ci .i64)) (sz := 1) (fun _ => rfl) hl260) Tryd.isAgg136 Tryd.sizeOf136) rfl fun a w hS => stAr (xs := c_259) (ys := c_259) (g := (ci .i64)) (pre := []) (post := []) 0 hS rfl rfl hB262 rfl (by simp) rfl (flat_ln (g := (ci .i64)) (sz := 1) (fun _ => rfl) hl260) (flat_ln (g := (ci .i64)) (sz := 1) (fun _ => rfl) hl260) (one_t3) Tryd.sizeOf136 fun w f269 hB270 hS => ?_
      replace hB270 : Blk f269 b235 (c_259.flatMap (ci .i64)) 136 := by simpa using hB270
      refine st1 hS (asg rfl) rfl fun a w hS => wpList_nil <| then_n <| wp_ret <| then_ret (blk_ret (then_ret (then_ret (blk_ret (then_ret ?_)))))
      exact s_retC (vs := [.agg ⟨c_259.flatMap (ci .i64)⟩, .bool false]) hS rfl (by exact ⟨rvR 0 rfl hB270 rfl (flat_ln (g := (ci .i64)) (sz := 1) (fun _ => rfl) hl260) Tryd.isAgg136 Tryd.sizeOf136, rvT rfl, trivial⟩) (hret c_259 false w (wp_ok hM) hl260 (hS.st.pick [] (by kernel_rfl)))
     ·refine wp_skip ?_
      refine then_n <| wp_region_list <| st1 hS (mv rfl) rfl fun a w hS => ?_
      obtain ⟨hk271, hM⟩ := wp_chk hM
      refine st1 hS (ixB rfl rfl Tryd.runUnderlying136 Tryd.sizeOf3 hk271) rfl fun a w hS => st1 hS (ldR (xs := c_259) (g := (ci .i64)) (pre := []) (post := []) 0 rfl hB262 rfl (by simp) rfl (fun _ => rfl) (inb_len hl260 hk271) rfl Tryd.isAgg3) rfl fun a w hS => st1 hS (bin rfl rfl rfl) rfl fun a w hS => st1 hS (ixB rfl rfl Tryd.runUnderlying136 Tryd.sizeOf3 hk271) rfl fun a w hS => stR (xs := c_259) (g := (ci .i64)) (pre := []) (post := []) 0 ((w64 ((rd c_259 n_267) + (1 : Int)))) hS rfl rfl hB262 rfl (by simp) rfl (fun _ => rfl) (inb_len hl260 hk271) rfl Tryd.sizeOf3 (one_t3 _) fun zs274 w f272 hz hB273 hS => ?_
      have hl275 : zs274.length = 16 := by rw [hz, List.length_set]; exact hl260
      have hM := lt_to hz hM; clear hz
      replace hB273 : Blk f272 b235 (zs274.flatMap (ci .i64)) 136 := by simpa using hB273
      refine wpList_nil <| blk_n (then_n ?_)
      refine wp_region_list <| st1 hS (bin rfl rfl rfl) rfl fun a w hS => st1 hS (mv rfl) rfl fun a w hS => wpList_nil <| then_n ?_
      exact hJ276 _ _ ⟨zs274, f272, (w64 (v263 + (1 : Int))), hS.to [0] (by kernel_rfl) ⟨rfl, rfl, rfl, rfl, trivial⟩, hl275, hB273, hM⟩
    ·refine wp_exit ?_
     refine then_ex (then_ex (blk_same (then_n ?_)))
     exact hJ281 _ _ ⟨c_259, f261, hS.to [0] (by kernel_rfl) ⟨rfl, trivial⟩, hl260, hB262, hM⟩
  ·intro a w hI
   obtain ⟨c_277, f279, hS, hl278, hB280, hM⟩ := hI
   rw [huff_count.j2] at hM
   refine wp_seq <| wp_region_list <| st1 hS (ixB rfl rfl Tryd.runUnderlying136 Tryd.sizeOf3 rfl) rfl fun a w hS => stR (xs := c_277) (g := (ci .i64)) (pre := []) (post := []) 0 ((0 : Int)) hS rfl rfl hB280 rfl (by simp) rfl (fun _ => rfl) (inb_len hl278 rfl) rfl Tryd.sizeOf3 (one_t3 _) fun zs284 w f282 hz hB283 hS => ?_
   have hl285 : zs284.length = 16 := by rw [hz, List.length_set]; exact hl278
   have hM := lt_to hz hM; clear hz
   replace hB283 : Blk f282 b235 (zs284.flatMap (ci .i64)) 136 := by simpa using hB283
   refine wpList_nil <| then_n <| wp_seq <| wp_region_list <| st1 hS (ldAr (xs := zs284) (g := (ci .i64)) (pre := []) (post := []) 0 rfl hB283 rfl (by simp) rfl (flat_ln (g := (ci .i64)) (sz := 1) (fun _ => rfl) hl285) Tryd.isAgg136 Tryd.sizeOf136) rfl fun a w hS => stAr (xs := zs284) (ys := zs284) (g := (ci .i64)) (pre := []) (post := []) 0 hS rfl rfl hB283 rfl (by simp) rfl (flat_ln (g := (ci .i64)) (sz := 1) (fun _ => rfl) hl285) (flat_ln (g := (ci .i64)) (sz := 1) (fun _ => rfl) hl285) (one_t3) Tryd.sizeOf136 fun w f286 hB287 hS => ?_
   replace hB287 : Blk f286 b235 (zs284.flatMap (ci .i64)) 136 := by simpa using hB287
   refine st1 hS (asg rfl) rfl fun a w hS => wpList_nil <| then_n <| wp_ret ?_
   exact s_retC (vs := [.agg ⟨zs284.flatMap (ci .i64)⟩, .bool true]) hS rfl (by exact ⟨rvR 0 rfl hB287 rfl (flat_ln (g := (ci .i64)) (sz := 1) (fun _ => rfl) hl285) Tryd.isAgg136 Tryd.sizeOf136, rvT rfl, trivial⟩) (hret zs284 true w (wp_ok hM) hl285 (hS.st.pick [] (by kernel_rfl)))

theorem huff_Check_c {H : Imm} {F : List Frag} {w : World} {R : Ending → World → Prop} {kr : Int → Prop} {kp : Value → Prop} (hG : Gl H) (K : Nat) (lengths225 : List Int) (A226 : Option Addr) (c227 : Nat) (hr228 : Rdl H [] F (ci .i64) A226 lengths225) (hc229 : lengths225.length ≤ c227)
    (hS : St w H [] F) (hm : (huff_Check.m K lengths225).wp kr kp)
    (hret : ∀ (x312 : Int) (w : World), kr x312 → St w H [] F → R (.returned (.int .i64 x312)) w) :
    Calls Tryd.prog 77 ⟨[.slice A226 lengths225.length c227]⟩ w R := by
 refine enter Tryd.func77 rfl Tryd.ntmps77 rfl hS fun a w hS => ?_
 have hM := hm; clear hm
 rw [huff_Check.m] at hM
 refine wp_seq <| wp_region_list <| st1 hS (asg rfl) rfl fun a w hS => wpList_nil <| then_n <| wp_seq <| wp_region_list <| st1 hS (mv rfl) rfl fun a w hS => s_call hS rfl Tryd.call78 (huff_count_c hG K lengths225 A226 c227 (hr228.app _) hc229 (hS.st.part 0 [] (by kernel_rfl)) (wp_bind hM) (fun x291 x292 w hM h293 hst => s_back hS.ev hst.appF rfl fun hS => ?_))
 replace hS : Ss _ _ _ H [] F _ _ := hS
 refine st1 hS (mv rfl) rfl fun a w hS => st1 hS (ex rfl rfl) rfl fun a w hS => st1 hS (ex rfl rfl) rfl fun a w hS => alc ((List.replicate 16 (0 : Int)).flatMap (ci .i64)) hS Tryd.zeroValue136 rfl rfl fun w b294 f295 hB296 hS => stAr (xs := (List.replicate 16 (0 : Int))) (ys := x291) (g := (ci .i64)) (pre := []) (post := []) 0 hS rfl rfl hB296 rfl (by simp) rfl (flat_ln (g := (ci .i64)) (sz := 1) (fun _ => rfl) (List.length_replicate ..)) (flat_ln (g := (ci .i64)) (sz := 1) (fun _ => rfl) h293) (one_t3) Tryd.sizeOf136 fun w f297 hB298 hS => ?_
 replace hB298 : Blk f297 b294 (x291.flatMap (ci .i64)) 136 := by simpa using hB298
 refine st1 hS (asg rfl) rfl fun a w hS => wpList_nil <| then_n <| wp_seq <| wp_seq <| wp_region_list <| st1 hS (mv rfl) rfl fun a w hS => st1 hS (un rfl rfl) rfl fun a w hS => wpList_nil <| then_n <| s_cond hS rfl hM (fun hb299 hM => ?_) (fun hb299 hM => ?_)
 ·refine wp_seq ?_
  refine wp_region_list <| st1 hS (asg rfl) rfl fun a w hS => wpList_nil <| then_n <| wp_ret <| then_ret ?_
  exact s_ret (rs := [2]) hS rfl rfl (hret (1 : Int) w (wp_ok hM) (hS.st.pick [] (by kernel_rfl)))
 ·refine wp_skip ?_
  refine then_n <| wp_seq <| wp_region_list <| st1 hS (asg rfl) rfl fun a w hS => wpList_nil <| then_n <| seq_joinJ (fun a w => ∃ (sum309 : Int), Ss 38 [] [(3, ptr b294 0), (5, .int .i64 sum309)] H [f297] F a w ∧ (huff_Check.j2 K x291 sum309).wp kr kp) (fun J310 hJ310 => ?_) ?_
  ·refine wp_seq ?_
   refine wp_region_list <| st1 hS (ldAr (xs := x291) (g := (ci .i64)) (pre := []) (post := []) 0 rfl hB298 rfl (by simp) rfl (flat_ln (g := (ci .i64)) (sz := 1) (fun _ => rfl) h293) Tryd.isAgg136 Tryd.sizeOf136) rfl fun a w hS => st1 hS (mv rfl) rfl fun a w hS => wpList_nil <| then_n <| wp_block <| s_loopJ (fun k302 a w => ∃ (sum300 : Int) (v301 : Int), Ss 38 [] [(3, ptr b294 0), (5, .int .i64 sum300), (15, .agg ⟨x291.flatMap (ci .i64)⟩), (16, .int .i64 v301)] H [f297] F a w ∧ (huff_Check.l1 K x291 k302 sum300 v301).wp kr kp) K ?_ ?_ ?_
   ·exact ⟨(0 : Int), (0 : Int), hS.to [0] (by kernel_rfl) ⟨rfl, rfl, rfl, rfl, trivial⟩, hM⟩
   ·intro a w hI; obtain ⟨_, _, _, hM⟩ := hI; exact wp_fail hM
   ·intro k302 a w hI J308 hJ308
    obtain ⟨sum300, v301, hS, hM⟩ := hI
    rw [huff_Check.l1] at hM
    refine wp_seq <| wp_region_list <| st1 hS (bin rfl rfl rfl) rfl fun a w hS => wpList_nil <| then_n <| wp_seq <| s_cond hS rfl hM (fun hb303 hM => ?_) (fun hb303 hM => ?_)
    ·refine wp_skip ?_
     refine then_n <| wp_seq <| wp_block <| wp_seq <| wp_region_list <| st1 hS (mv rfl) rfl fun a w hS => ?_
     obtain ⟨hk304, hM⟩ := wp_chk hM
     refine st1 hS (ixA rfl rfl Tryd.runUnderlying136 Tryd.isAgg3 Tryd.sizeOf3 (fun _ => rfl) h293 hk304 rfl) rfl fun a w hS => st1 hS (asg rfl) rfl fun a w hS => st1x (v := Value.int .i64) (x0 := (rd x291 v301)) hS (asg rfl) rfl fun k_305 a w hz hS => ?_
     have hM := lt_to hz hM; clear hz
     refine wpList_nil <| then_n <| wp_region_list <| st1 hS (mv rfl) rfl fun a w hS => st1 hS (mv rfl) rfl fun a w hS => st1 hS (mv rfl) rfl fun a w hS => ?_
     obtain ⟨hk306, hM⟩ := wp_chk hM
     refine st1 hS (shr rfl rfl hk306) rfl fun a w hS => st1 hS (bin rfl rfl rfl) rfl fun a w hS => st1 hS (bin rfl rfl rfl) rfl fun a w hS => st1x (v := Value.int .i64) (x0 := (w64 (sum300 + (w64 (k_305 * (ishr .i64 (32768 : Int) v301)))))) hS (asg rfl) rfl fun sum307 a w hz hS => ?_
     have hM := lt_to hz hM; clear hz
     refine wpList_nil <| blk_n (then_n ?_)
     refine wp_region_list <| st1 hS (bin rfl rfl rfl) rfl fun a w hS => st1 hS (mv rfl) rfl fun a w hS => wpList_nil <| then_n ?_
     exact hJ308 _ _ ⟨sum307, (w64 (v301 + (1 : Int))), hS.to [0] (by kernel_rfl) ⟨rfl, rfl, rfl, rfl, trivial⟩, hM⟩
    ·refine wp_exit ?_
     refine then_ex (then_ex (blk_same (then_n ?_)))
     exact hJ310 _ _ ⟨sum300, hS.to [0] (by kernel_rfl) ⟨rfl, rfl, trivial⟩, hM⟩
  ·intro a w hI
   obtain ⟨sum309, hS, hM⟩ := hI
   rw [huff_Check.j2] at hM
   refine wp_seq <| wp_seq <| wp_region_list <| st1 hS (mv rfl) rfl fun a w hS => st1 hS (bin rfl rfl rfl) rfl fun a w hS => st1 hS (mv rfl) rfl fun a w hS => g_op 2 false 29 (b := (sum309 == (0 : Int))) (r := (sum309 == (32768 : Int))) hS rfl rfl rfl rfl rfl rfl rfl (fun hb a w hS K hK => ?_) rfl fun a w hS => ?_
   ·refine st1g hS rfl rfl rfl hb (mv rfl) rfl fun a w hS => ?_
    refine st1g hS rfl rfl rfl hb (bin rfl rfl rfl) rfl fun a w hS => ?_
    exact wpList_nil (hK _ _ (hS.up 2 rfl rfl))
   refine st1 hS (mv rfl) rfl fun a w hS => g_op 3 false 33 (b := ((sum309 == (0 : Int)) || (sum309 == (32768 : Int)))) (r := (x291 == ([0, (1 : Int), 0, 0, 0, 0, 0, 0, 0, 0, 0, 0, 0, 0, 0, 0] : List Int))) hS rfl rfl rfl rfl rfl rfl rfl (fun hb a w hS K hK => ?_) rfl fun a w hS => ?_
   ·refine st1g hS rfl rfl rfl hb (ldAr (xs := x291) (g := (ci .i64)) (pre := []) (post := []) 0 rfl hB298 rfl (by simp) rfl (flat_ln (g := (ci .i64)) (sz := 1) (fun _ => rfl) h293) Tryd.isAgg136 Tryd.sizeOf136) rfl fun a w hS => ?_
    refine st1g hS rfl rfl rfl hb (bldAr (([0, (1 : Int), 0, 0, 0, 0, 0, 0, 0, 0, 0, 0, 0, 0, 0, 0] : List Int).flatMap (ci .i64)) Tryd.zeroValue136 Tryd.runUnderlying136 Tryd.sizeOf3 rfl (by kernel_rfl)) rfl fun a w hS => st1g hS rfl rfl rfl hb (eqArr rfl rfl Tryd.runUnderlying136 Tryd.runUnderlying3 Tryd.sizeOf3 Tryd.isAgg3 h293 rfl Tryd.eqGuardType136 rfl) rfl fun a w hS => ?_
    exact wpList_nil (hK _ _ (hS.up 3 rfl rfl))
   refine wpList_nil <| then_n <| s_cond hS rfl hM (fun hb311 hM => ?_) (fun hb311 hM => ?_)
   ·refine wp_seq ?_
    refine wp_region_list <| st1 hS (asg rfl) rfl fun a w hS => wpList_nil <| then_n <| wp_ret <| then_ret ?_
    exact s_ret (rs := [2]) hS rfl rfl (hret (0 : Int) w (wp_ok hM) (hS.st.pick [] (by kernel_rfl)))
   ·refine wp_skip ?_
    refine then_n <| wp_seq <| wp_region_list <| st1 hS (asg rfl) rfl fun a w hS => wpList_nil <| then_n <| wp_ret ?_
    exact s_ret (rs := [2]) hS rfl rfl (hret (3 : Int) w (wp_ok hM) (hS.st.pick [] (by kernel_rfl)))

theorem huff_counted_firsts_c {H : Imm} {F : List Frag} {w : World} {R : Ending → World → Prop} {kr : (List Int) → Prop} {kp : Value → Prop} (hG : Gl H) (K : Nat) (c_325 : List Int) (hl326 : c_325.length = 16)
    (hS : St w H [] F) (hm : (huff_counted_firsts.m K c_325).wp kr kp)
    (hret : ∀ (x375 : (List Int)) (w : World), kr x375 → (x375.length = 16) → St w H [] F → R (.returned (.agg ⟨x375.flatMap (ci .i64)⟩)) w) :
    Calls Tryd.prog 79 ⟨[.agg ⟨c_325.flatMap (ci .i64)⟩]⟩ w R := by
 refine enter Tryd.func79 rfl Tryd.ntmps79 rfl hS fun a w hS => ?_
 have hM := hm; clear hm
 rw [huff_counted_firsts.m] at hM
 refine wp_seq <| wp_region_list <| bx (c_325.flatMap (ci .i64)) hS rfl rfl rfl fun w b327 f328 hB329 hS => alc ((List.replicate 16 (0 : Int)).flatMap (ci .i64)) hS Tryd.zeroValue136 rfl rfl fun w b330 f331 hB332 hS => wpList_nil <| then_n <| wp_seq <| wp_region_list <| st1 hS (asg rfl) rfl fun a w hS => wpList_nil <| then_n <| seq_joinJ (fun a w => ∃ (first368 : (List Int)) (f370 : Frag), Ss 20 [] [(2, ptr b330 0)] H [f370] F a w ∧ (first368.length = 16) ∧ (Blk f370 b330 (first368.flatMap (ci .i64)) 136) ∧ (huff_counted_firsts.j2 K first368).wp kr kp) (fun J372 hJ372 => ?_) ?_
 ·refine wp_seq ?_
  refine wp_region_list <| st1 hS (asg rfl) rfl fun a w hS => wpList_nil <| then_n <| wp_block <| s_loopJ (fun k357 a w => ∃ (first351 : (List Int)) (f353 : Frag) (code355 : Int) (n_356 : Int), Ss 20 [] [(1, ptr b327 0), (2, ptr b330 0), (3, .int .i64 code355), (4, .int .i64 n_356)] H [f328, f353] F a w ∧ (first351.length = 16) ∧ (Blk f353 b330 (first351.flatMap (ci .i64)) 136) ∧ (huff_counted_firsts.l1 K c_325 k357 first351 code355 n_356).wp kr kp) K ?_ ?_ ?_
  ·exact ⟨(List.replicate 16 (0 : Int)), f331, (0 : Int), (1 : Int), hS.to [1, 0] (by kernel_rfl) ⟨rfl, rfl, rfl, rfl, trivial⟩, (List.length_replicate ..), hB332, hM⟩
  ·intro a w hI; obtain ⟨_, _, _, _, _, _, _, hM⟩ := hI; exact wp_fail hM
  ·intro k357 a w hI J367 hJ367
   obtain ⟨first351, f353, code355, n_356, hS, hl352, hB354, hM⟩ := hI
   rw [huff_counted_firsts.l1] at hM
   refine wp_seq <| wp_seq <| wp_region_list <| st1 hS (mv rfl) rfl fun a w hS => st1 hS (bin rfl rfl rfl) rfl fun a w hS => wpList_nil <| then_n <| s_cond hS rfl hM (fun hb358 hM => ?_) (fun hb358 hM => ?_)
   ·refine wp_skip ?_
    refine then_n <| wp_seq <| wp_block <| wp_seq <| wp_region_list <| st1 hS (mv rfl) rfl fun a w hS => st1 hS (mv rfl) rfl fun a w hS => st1 hS (bin rfl rfl rfl) rfl fun a w hS => ?_
    obtain ⟨hk359, hM⟩ := wp_chk hM
    refine st1 hS (ixB rfl rfl Tryd.runUnderlying136 Tryd.sizeOf3 hk359) rfl fun a w hS => st1 hS (ldR (xs := c_325) (g := (ci .i64)) (pre := []) (post := []) 0 rfl hB329 rfl (by simp) rfl (fun _ => rfl) (inb_len hl326 hk359) rfl Tryd.isAgg3) rfl fun a w hS => st1 hS (bin rfl rfl rfl) rfl fun a w hS => st1 hS (shl rfl rfl rfl) rfl fun a w hS => st1x (v := Value.int .i64) (x0 := (ishl .i64 (w64 (code355 + (rd c_325 (w64 (n_356 - (1 : Int)))))) (1 : Int))) hS (asg rfl) rfl fun code360 a w hz hS => ?_
    have hM := lt_to hz hM; clear hz
    refine wpList_nil <| then_n <| wp_region_list <| st1 hS (mv rfl) rfl fun a w hS => st1 hS (mv rfl) rfl fun a w hS => ?_
    obtain ⟨hk361, hM⟩ := wp_chk hM
    refine st1 hS (ixB rfl rfl Tryd.runUnderlying136 Tryd.sizeOf3 hk361) rfl fun a w hS => stR (xs := first351) (g := (ci .i64)) (pre := []) (post := []) 1 (code360) hS rfl rfl hB354 rfl (by simp) rfl (fun _ => rfl) (inb_len hl352 hk361) rfl Tryd.sizeOf3 (one_t3 _) fun zs364 w f362 hz hB363 hS => ?_
    have hl365 : zs364.length = 16 := by rw [hz, List.length_set]; exact hl352
    have hM := lt_to hz hM; clear hz
    replace hB363 : Blk f362 b330 (zs364.flatMap (ci .i64)) 136 := by simpa using hB363
    refine wpList_nil <| blk_n (then_n ?_)
    refine wp_region_list <| st1 hS (mv rfl) rfl fun a w hS => st1 hS (bin rfl rfl rfl) rfl fun a w hS => st1x (v := Value.int .i64) (x0 := (w64 (n_356 + (1 : Int)))) hS (asg rfl) rfl fun n_366 a w hz hS => ?_
    have hM := lt_to hz hM; clear hz
    refine wpList_nil <| then_n ?_
    exact hJ367 _ _ ⟨zs364, f362, code360, n_366, hS.to [0, 1] (by kernel_rfl) ⟨rfl, rfl, rfl, rfl, trivial⟩, hl365, hB363, hM⟩
   ·refine wp_exit ?_
    refine then_ex (then_ex (blk_same (then_n ?_)))
    exact hJ372 _ _ ⟨first351, f353, hS.to [1] (by kernel_rfl) ⟨rfl, trivial⟩, hl352, hB354, hM⟩
 ·intro a w hI
  obtain ⟨first368, f370, hS, hl369, hB371, hM⟩ := hI
  rw [huff_counted_firsts.j2] at hM
  refine wp_seq <| wp_region_list <| st1 hS (ldAr (xs := first368) (g := (ci .i64)) (pre := []) (post := []) 0 rfl hB371 rfl (by simp) rfl (flat_ln (g := (ci .i64)) (sz := 1) (fun _ => rfl) hl369) Tryd.isAgg136 Tryd.sizeOf136) rfl fun a w hS => stAr (xs := first368) (ys := first368) (g := (ci .i64)) (pre := []) (post := []) 0 hS rfl rfl hB371 rfl (by simp) rfl (flat_ln (g := (ci .i64)) (sz := 1) (fun _ => rfl) hl369) (flat_ln (g := (ci .i64)) (sz := 1) (fun _ => rfl) hl369) (one_t3) Tryd.sizeOf136 fun w f373 hB374 hS => ?_
  replace hB374 : Blk f373 b330 (first368.flatMap (ci .i64)) 136 := by simpa using hB374
  refine wpList_nil <| then_n <| wp_ret ?_
  exact s_retC (vs := [.agg ⟨first368.flatMap (ci .i64)⟩]) hS rfl (by exact ⟨rvR 0 rfl hB374 rfl (flat_ln (g := (ci .i64)) (sz := 1) (fun _ => rfl) hl369) Tryd.isAgg136 Tryd.sizeOf136, trivial⟩) (hret first368 w (wp_ok hM) hl369 (hS.st.pick [] (by kernel_rfl)))

theorem huff_Codes_c {H : Imm} {F : List Frag} {w : World} {R : Ending → World → Prop} {kr : ((List Int) × Int) → Prop} {kp : Value → Prop} (hG : Gl H) (K : Nat) (lengths218 : List Int) (A219 : Option Addr) (c220 : Nat) (hr221 : Rdl H [] F (ci .i64) A219 lengths218) (hc222 : lengths218.length ≤ c220)
    (hS : St w H [] F) (hm : (huff_Codes.m K lengths218).wp kr kp)
    (hret : ∀ (A438 : Option Addr) (c439 : Nat) (x440 : (List Int)) (f441 : Frag) (x443 : Int) (w : World), kr (x440, x443) → (Vec 3 (ci .i64) 1 A438 x440 c439 f441) → St w H [f441] F → R (.returned (.tuple ⟨[.slice A438 x440.length c439, .int .i64 x443]⟩)) w) :
    Calls Tryd.prog 53 ⟨[.slice A219 lengths218.length c220]⟩ w R := by
 refine enter Tryd.func53 rfl Tryd.ntmps53 rfl hS fun a w hS => ?_
 have hM := hm; clear hm
 rw [huff_Codes.m] at hM
 refine wp_seq <| wp_region_list <| st1 hS (asg rfl) rfl fun a w hS => ?_
 obtain ⟨f223, hV224, hS⟩ := hS.nilV 3 (ci .i64) 1
 refine st1 hS (asg rfl) rfl fun a w hS => wpList_nil <| then_n <| wp_seq <| wp_seq <| wp_region_list <| st1 hS (mv rfl) rfl fun a w hS => s_call hS rfl Tryd.call77 (huff_Check_c hG K lengths218 A219 c220 (hr221.app _) hc222 (hS.st.part 0 [0] (by kernel_rfl)) (wp_bind hM) (fun x313 w hM  hst => s_back hS.ev hst.appF rfl fun hS => ?_))
 replace hS : Ss _ _ _ H [f223] F _ _ := hS
 refine st1 hS (asg rfl) rfl fun a w hS => wpList_nil <| then_n <| wp_seq <| wp_region_list <| st1 hS (mv rfl) rfl fun a w hS => st1 hS (bin rfl rfl rfl) rfl fun a w hS => wpList_nil <| then_n <| s_cond hS rfl hM (fun hb314 hM => ?_) (fun hb314 hM => ?_)
 ·refine wp_seq ?_
  refine wp_region_list <| st1 hS (mv rfl) rfl fun a w hS => st1 hS (asg rfl) rfl fun a w hS => ?_
  obtain ⟨f315, hV316, hS⟩ := hS.nilV 3 (ci .i64) 1
  refine st1 hS (asg rfl) rfl fun a w hS => wpList_nil <| then_n <| wp_ret <| then_ret ?_
  exact s_ret (rs := [2, 3]) hS rfl rfl (hret none (0) ([] : List Int) f315 x313 w (wp_ok hM) hV316 (hS.st.pick [0] (by kernel_rfl)))
 ·refine wp_skip ?_
  refine then_n <| wp_seq <| wp_region_list <| st1 hS (mv rfl) rfl fun a w hS => s_call hS rfl Tryd.call78 (huff_count_c hG K lengths218 A219 c220 (hr221.app _) hc222 (hS.st.part 0 [0] (by kernel_rfl)) (wp_bind hM) (fun x317 x318 w hM h319 hst => s_back hS.ev hst.appF rfl fun hS => ?_))
  replace hS : Ss _ _ _ H [f223] F _ _ := hS
  refine st1 hS (mv rfl) rfl fun a w hS => st1 hS (ex rfl rfl) rfl fun a w hS => st1 hS (ex rfl rfl) rfl fun a w hS => alc ((List.replicate 16 (0 : Int)).flatMap (ci .i64)) hS Tryd.zeroValue136 rfl rfl fun w b320 f321 hB322 hS => stAr (xs := (List.replicate 16 (0 : Int))) (ys := x317) (g := (ci .i64)) (pre := []) (post := []) 0 hS rfl rfl hB322 rfl (by simp) rfl (flat_ln (g := (ci .i64)) (sz := 1) (fun _ => rfl) (List.length_replicate ..)) (flat_ln (g := (ci .i64)) (sz := 1) (fun _ => rfl) h319) (one_t3) Tryd.sizeOf136 fun w f323 hB324 hS => ?_
  replace hB324 : Blk f323 b320 (x317.flatMap (ci .i64)) 136 := by simpa using hB324
  refine st1 hS (asg rfl) rfl fun a w hS => wpList_nil <| then_n <| wp_seq <| wp_region_list <| st1 hS (ldAr (xs := x317) (g := (ci .i64)) (pre := []) (post := []) 0 rfl hB324 rfl (by simp) rfl (flat_ln (g := (ci .i64)) (sz := 1) (fun _ => rfl) h319) Tryd.isAgg136 Tryd.sizeOf136) rfl fun a w hS => s_call hS rfl Tryd.call79 (huff_counted_firsts_c hG K x317 h319 (hS.st.part 0 [0, 1] (by kernel_rfl)) (wp_bind hM) (fun x377 w hM h378 hst => s_back hS.ev hst.appF rfl fun hS => ?_))
  replace hS : Ss _ _ _ H [f323, f223] F _ _ := hS
  refine alc ((List.replicate 16 (0 : Int)).flatMap (ci .i64)) hS Tryd.zeroValue136 rfl rfl fun w b379 f380 hB381 hS => stAr (xs := (List.replicate 16 (0 : Int))) (ys := x377) (g := (ci .i64)) (pre := []) (post := []) 0 hS rfl rfl hB381 rfl (by simp) rfl (flat_ln (g := (ci .i64)) (sz := 1) (fun _ => rfl) (List.length_replicate ..)) (flat_ln (g := (ci .i64)) (sz := 1) (fun _ => rfl) h378) (one_t3) Tryd.sizeOf136 fun w f382 hB383 hS => ?_
  replace hB383 : Blk f382 b379 (x377.flatMap (ci .i64)) 136 := by simpa using hB383
  refine wpList_nil <| then_n <| wp_seq <| wp_region_list <| st1 hS (mv rfl) rfl fun a w hS => st1 hS (lenV rfl Tryd.runUnderlying45) rfl fun a w hS => ?_
  obtain ⟨hk384, hM⟩ := wp_chk hM
  refine mkS (g := (ci .i64)) (m := (lengths218.length : Int)) (0 : Int) hS rfl rfl (by simp) Tryd.runUnderlying45 X.el3 (fun w => ⟨_, Tryd.zeroValue3 w, rfl⟩) (fun _ => rfl) rfl rfl hk384 rfl fun zs389 w A385 c386 f387 hz hV388 hS => ?_
  have hM := lt_to hz hM; clear hz
  refine st1 hS (asg rfl) rfl fun a w hS => wpList_nil <| then_n <| wp_seq <| wp_seq <| wp_region_list <| st1 hS (mv rfl) rfl fun a w hS => st1 hS (lenV rfl Tryd.runUnderlying45) rfl fun a w hS => st1 hS (mv rfl) rfl fun a w hS => wpList_nil <| then_n <| wp_block <| s_loopJ (fun k422 a w => ∃ (next414 : (List Int)) (f416 : Frag) (out418 : (List Int)) (f419 : Frag) (v421 : Int), Ss 48 [] [(7, ptr b379 0), (8, .slice A385 out418.length c386), (26, .slice A219 lengths218.length c220), (27, .int .i64 (lengths218.length : Int)), (28, .int .i64 v421)] H [f416, f419] F a w ∧ (next414.length = 16) ∧ (Blk f416 b379 (next414.flatMap (ci .i64)) 136) ∧ (Vec 3 (ci .i64) 1 A385 out418 c386 f419) ∧ (huff_Codes.l1 K lengths218 k422 next414 out418 v421).wp kr kp) K ?_ ?_ ?_
  ·exact ⟨x377, f382, zs389, f387, (0 : Int), hS.to [1, 0] (by kernel_rfl) ⟨rfl, rfl, rfl, rfl, rfl, trivial⟩, h378, hB383, hV388, hM⟩
  ·intro a w hI; obtain ⟨_, _, _, _, _, _, _, _, _, hM⟩ := hI; exact wp_fail hM
  ·intro k422 a w hI J437 hJ437
   obtain ⟨next414, f416, out418, f419, v421, hS, hl415, hB417, hV420, hM⟩ := hI
   rw [huff_Codes.l1] at hM
   refine wp_seq <| wp_region_list <| st1 hS (bin rfl rfl rfl) rfl fun a w hS => wpList_nil <| then_n <| wp_seq <| s_cond hS rfl hM (fun hb423 hM => ?_) (fun hb423 hM => ?_)
   ·refine wp_skip ?_
    refine then_n <| wp_seq <| wp_block <| wp_seq <| wp_region_list <| st1 hS (mv rfl) rfl fun a w hS => ?_
    obtain ⟨hk424, hM⟩ := wp_chk hM
    refine st1 hS (ixV rfl rfl Tryd.runUnderlying45 Tryd.sizeOf3 hr221.wk (fun _ => rfl) rfl hk424) rfl fun a w hS => st1 hS (ldV0 rfl hr221.wk (fun _ => rfl) hk424 rfl Tryd.isAgg3) rfl fun a w hS => st1 hS (asg rfl) rfl fun a w hS => st1x (v := Value.int .i64) (x0 := (rd lengths218 v421)) hS (asg rfl) rfl fun n_425 a w hz hS => ?_
    have hM := lt_to hz hM; clear hz
    refine wpList_nil <| then_n <| wp_seq <| wp_region_list <| st1 hS (mv rfl) rfl fun a w hS => st1 hS (bin rfl rfl rfl) rfl fun a w hS => wpList_nil <| then_n <| s_cond hS rfl hM (fun hb426 hM => ?_) (fun hb426 hM => ?_)
    ·refine wp_seq ?_
     refine wp_region_list <| st1 hS (mv rfl) rfl fun a w hS => st1 hS (mv rfl) rfl fun a w hS => st1 hS (mv rfl) rfl fun a w hS => ?_
     obtain ⟨hk427, hM⟩ := wp_chk hM
     refine st1 hS (ixB rfl rfl Tryd.runUnderlying136 Tryd.sizeOf3 hk427) rfl fun a w hS => st1 hS (ldR (xs := next414) (g := (ci .i64)) (pre := []) (post := []) 0 rfl hB417 rfl (by simp) rfl (fun _ => rfl) (inb_len hl415 hk427) rfl Tryd.isAgg3) rfl fun a w hS => ?_
     obtain ⟨hk428, hM⟩ := wp_chk hM
     refine st1 hS (ixV rfl rfl Tryd.runUnderlying45 Tryd.sizeOf3 (hV420.rd (i := 1) rfl) (fun _ => rfl) rfl hk428) rfl fun a w hS => stV (i := v421) (sz := 1) 1 0 ((rd next414 n_425)) hS rfl rfl hV420 rfl Tryd.sizeOf3 (one_t3 (rd next414 n_425)) (fun _ => rfl) hk428 rfl rfl fun zs431 w f429 hz hz432 hV430 hS => ?_
     have hM := lt_to hz hM; clear hz
     replace hS := hS.re 8 (u := .slice A385 out418.length c386) (v := .slice A385 zs431.length c386) rfl (by rw [hz432])
     replace hS := hS.re 35 (u := .slice A385 out418.length c386) (v := .slice A385 zs431.length c386) rfl (by rw [hz432])
     refine wpList_nil <| then_n <| wp_region_list <| st1 hS (mv rfl) rfl fun a w hS => st1 hS (ixB rfl rfl Tryd.runUnderlying136 Tryd.sizeOf3 hk427) rfl fun a w hS => st1 hS (ldR (xs := next414) (g := (ci .i64)) (pre := []) (post := []) 0 rfl hB417 rfl (by simp) rfl (fun _ => rfl) (inb_len hl415 hk427) rfl Tryd.isAgg3) rfl fun a w hS => st1 hS (bin rfl rfl rfl) rfl fun a w hS => st1 hS (ixB rfl rfl Tryd.runUnderlying136 Tryd.sizeOf3 hk427) rfl fun a w hS => stR (xs := next414) (g := (ci .i64)) (pre := []) (post := []) 0 ((w64 ((rd next414 n_425) + (1 : Int)))) hS rfl rfl hB417 rfl (by simp) rfl (fun _ => rfl) (inb_len hl415 hk427) rfl Tryd.sizeOf3 (one_t3 _) fun zs435 w f433 hz hB434 hS => ?_
     have hl436 : zs435.length = 16 := by rw [hz, List.length_set]; exact hl415
     have hM := lt_to hz hM; clear hz
     replace hB434 : Blk f433 b379 (zs435.flatMap (ci .i64)) 136 := by simpa using hB434
     refine wpList_nil <| blk_n (then_n ?_)
     refine wp_region_list <| st1 hS (bin rfl rfl rfl) rfl fun a w hS => st1 hS (mv rfl) rfl fun a w hS => wpList_nil <| then_n ?_
     exact hJ437 _ _ ⟨zs435, f433, zs431, f429, (w64 (v421 + (1 : Int))), hS.to [0, 1] (by kernel_rfl) ⟨rfl, rfl, rfl, rfl, rfl, trivial⟩, hl436, hB434, hV430, hM⟩
    ·refine wp_skip ?_
     refine blk_n (then_n ?_)
     refine wp_region_list <| st1 hS (bin rfl rfl rfl) rfl fun a w hS => st1 hS (mv rfl) rfl fun a w hS => wpList_nil <| then_n ?_
     exact hJ437 _ _ ⟨next414, f416, out418, f419, (w64 (v421 + (1 : Int))), hS.to [0, 1] (by kernel_rfl) ⟨rfl, rfl, rfl, rfl, rfl, trivial⟩, hl415, hB417, hV420, hM⟩
   ·refine wp_exit ?_
    refine then_ex (then_ex (blk_same (then_n ?_)))
    refine wp_seq <| wp_region_list <| st1 hS (mv rfl) rfl fun a w hS => st1 hS (asg rfl) rfl fun a w hS => st1 hS (asg rfl) rfl fun a w hS => wpList_nil <| then_n <| wp_ret ?_
    exact s_ret (rs := [2, 3]) hS rfl rfl (hret A385 c386 out418 f419 (0 : Int) w (wp_ok hM) hV420 (hS.st.pick [1] (by kernel_rfl)))

theorem deflate_coded_c {H : Imm} {F : List Frag} {w : World} {R : Ending → World → Prop} {kr : (List Int) → Prop} {kp : Value → Prop} (hG : Gl H) (K : Nat) (lengths206 : List Int) (A207 : Option Addr) (c208 : Nat) (hr209 : Rdl H [] F (ci .i64) A207 lengths206) (hc210 : lengths206.length ≤ c208)
    (hS : St w H [] F) (hm : (deflate_coded.m K lengths206).wp kr kp)
    (hret : ∀ (A452 : Option Addr) (c453 : Nat) (codes454 : (List Int)) (f455 : Frag) (w : World), kr codes454 → (Vec 3 (ci .i64) 1 A452 codes454 c453 f455) → St w H [f455] F → R (.returned (.agg ⟨[.slice A207 lengths206.length c208, .slice A452 codes454.length c453]⟩)) w) :
    Calls Tryd.prog 37 ⟨[.slice A207 lengths206.length c208]⟩ w R := by
 refine enter Tryd.func37 rfl Tryd.ntmps37 rfl hS fun a w hS => ?_
 have hM := hm; clear hm
 rw [deflate_coded.m] at hM
 refine wp_seq <| wp_region_list <| alc ([.slice none 0 0, .slice none 0 0]) hS Tryd.zeroValue47 rfl rfl fun w b211 f212 hB213 hS => ?_
 obtain ⟨f214, hV215, hS⟩ := hS.nilV 3 (ci .i64) 1
 obtain ⟨f216, hV217, hS⟩ := hS.nilV 3 (ci .i64) 1
 refine wpList_nil <| then_n <| wp_seq <| wp_region_list <| st1 hS (mv rfl) rfl fun a w hS => s_call hS rfl Tryd.call53 (huff_Codes_c hG K lengths206 A207 c208 (hr209.app _) hc210 (hS.st.part 0 [0, 1, 2] (by kernel_rfl)) (wp_bind hM) (fun A444 c445 x446 f447 x448 w hM h449 hst => s_back hS.ev hst.appF rfl fun hS => ?_))
 replace hS : Ss _ _ _ H [f447, f216, f214, f212] F _ _ := hS
 refine st1 hS (mv rfl) rfl fun a w hS => st1 hS (ex rfl rfl) rfl fun a w hS => st1 hS (ex rfl rfl) rfl fun a w hS => st1 hS (asg rfl) rfl fun a w hS => st1 hS (asg rfl) rfl fun a w hS => wpList_nil <| then_n <| wp_seq <| wp_region_list <| st1 hS (mv rfl) rfl fun a w hS => st1 hS (mv rfl) rfl fun a w hS => st1 hS (bld ([.slice A207 lengths206.length c208, .slice A444 x446.length c445]) [(0, 1), (1, 1)] Tryd.zeroValue47 Tryd.runUnderlying47 (by intro w; simp [Tryd.sizeOf45]) rfl rfl) rfl fun a w hS => stB 3 ([.slice A207 lengths206.length c208, .slice A444 x446.length c445]) ([.slice A207 lengths206.length c208, .slice A444 x446.length c445]) hS rfl rfl hB213 rfl rfl Tryd.sizeOf47 (by simp [Value.oneCell']) (Nat.le_of_ble_eq_true rfl) rfl fun w f450 hB451 hS => wpList_nil <| then_n <| wp_ret ?_
 exact s_retC (vs := [.agg ⟨[.slice A207 lengths206.length c208, .slice A444 x446.length c445]⟩]) hS rfl (by exact ⟨rvA 3 ([.slice A207 lengths206.length c208, .slice A444 x446.length c445]) rfl hB451 rfl rfl rfl Tryd.isAgg47 Tryd.sizeOf47, trivial⟩) (hret A444 c445 x446 f447 w (wp_ok hM) h449 (hS.st.pick [0] (by kernel_rfl)))

theorem deflate_fixedCodes_c {H : Imm} {F : List Frag} {w : World} {R : Ending → World → Prop} {kr : ((List Int) × (List Int) × (List Int) × (List Int)) → Prop} {kp : Value → Prop} (hG : Gl H) (K : Nat)
    (hS : St w H [] F) (hm : (deflate_fixedCodes.m K).wp kr kp)
    (hret : ∀ (A471 : Option Addr) (c472 : Nat) (lengths473 : (List Int)) (f474 : Frag) (A476 : Option Addr) (c477 : Nat) (codes478 : (List Int)) (f479 : Frag) (A481 : Option Addr) (c482 : Nat) (lengths483 : (List Int)) (f484 : Frag) (A486 : Option Addr) (c487 : Nat) (codes488 : (List Int)) (f489 : Frag) (w : World), kr (lengths473, codes478, lengths483, codes488) → (Vec 3 (ci .i64) 1 A471 lengths473 c472 f474) → (Vec 3 (ci .i64) 1 A476 codes478 c477 f479) → (Vec 3 (ci .i64) 1 A481 lengths483 c482 f484) → (Vec 3 (ci .i64) 1 A486 codes488 c487 f489) → St w H [f474, f479, f484, f489] F → R (.returned (.tuple ⟨[.agg ⟨[.slice A471 lengths473.length c472, .slice A476 codes478.length c477]⟩, .agg ⟨[.slice A481 lengths483.length c482, .slice A486 codes488.length c487]⟩]⟩)) w) :
    Calls Tryd.prog 22 ⟨[]⟩ w R := by
 refine enter Tryd.func22 rfl Tryd.ntmps22 rfl hS fun a w hS => ?_
 have hM := hm; clear hm
 rw [deflate_fixedCodes.m] at hM
 refine wp_seq <| wp_region_list <| alc ([.slice none 0 0, .slice none 0 0]) hS Tryd.zeroValue47 rfl rfl fun w b96 f97 hB98 hS => ?_
 obtain ⟨f99, hV100, hS⟩ := hS.nilV 3 (ci .i64) 1
 obtain ⟨f101, hV102, hS⟩ := hS.nilV 3 (ci .i64) 1
 refine alc ([.slice none 0 0, .slice none 0 0]) hS Tryd.zeroValue47 rfl rfl fun w b103 f104 hB105 hS => ?_
 obtain ⟨f106, hV107, hS⟩ := hS.nilV 3 (ci .i64) 1
 obtain ⟨f108, hV109, hS⟩ := hS.nilV 3 (ci .i64) 1
 refine wpList_nil <| then_n <| wp_seq <| wp_region_list ?_
 obtain ⟨hk110, hM⟩ := wp_chk hM
 refine mkS (g := (ci .i64)) (m := (288 : Int)) (0 : Int) hS rfl rfl (by simp) Tryd.runUnderlying45 X.el3 (fun w => ⟨_, Tryd.zeroValue3 w, rfl⟩) (fun _ => rfl) rfl rfl hk110 rfl fun zs115 w A111 c112 f113 hz hV114 hS => ?_
 have hM := lt_to hz hM; clear hz
 refine st1 hS (asg rfl) rfl fun a w hS => wpList_nil <| then_n <| seq_joinJ (fun a w => ∃ (l_168 : (List Int)) (f169 : Frag), Ss 46 [] [(0, ptr b96 0), (1, ptr b103 0), (2, .slice A111 l_168.length c112)] H [f97, f99, f101, f104, f106, f108, f169] F a w ∧ (Vec 3 (ci .i64) 1 A111 l_168 c112 f169) ∧ (deflate_fixedCodes.j2 K l_168).wp kr kp) (fun J171 hJ171 => ?_) ?_
 ·refine wp_seq ?_
  refine wp_region_list <| st1 hS (mv rfl) rfl fun a w hS => st1 hS (lenV rfl Tryd.runUnderlying45) rfl fun a w hS => st1 hS (mv rfl) rfl fun a w hS => wpList_nil <| then_n <| wp_block <| s_loopJ (fun k146 a w => ∃ (l_142 : (List Int)) (f143 : Frag) (v145 : Int), Ss 46 [] [(0, ptr b96 0), (1, ptr b103 0), (2, .slice A111 l_142.length c112), (8, .int .i64 (zs115.length : Int)), (9, .int .i64 v145)] H [f97, f99, f101, f104, f106, f108, f143] F a w ∧ (Vec 3 (ci .i64) 1 A111 l_142 c112 f143) ∧ (deflate_fixedCodes.l1 K zs115 k146 l_142 v145).wp kr kp) K ?_ ?_ ?_
  ·exact ⟨zs115, f113, (0 : Int), hS.to [6, 5, 4, 3, 2, 1, 0] (by kernel_rfl) ⟨rfl, rfl, rfl, rfl, rfl, trivial⟩, hV114, hM⟩
  ·intro a w hI; obtain ⟨_, _, _, _, _, hM⟩ := hI; exact wp_fail hM
  ·intro k146 a w hI J167 hJ167
   obtain ⟨l_142, f143, v145, hS, hV144, hM⟩ := hI
   rw [deflate_fixedCodes.l1] at hM
   refine wp_seq <| wp_region_list <| st1 hS (bin rfl rfl rfl) rfl fun a w hS => wpList_nil <| then_n <| wp_seq <| s_cond hS rfl hM (fun hb147 hM => ?_) (fun hb147 hM => ?_)
   ·refine wp_skip ?_
    refine then_n <| wp_seq <| wp_block <| wp_seq <| wp_region_list <| st1 hS (mv rfl) rfl fun a w hS => st1 hS (asg rfl) rfl fun a w hS => wpList_nil <| then_n <| wp_block <| wp_seq <| wp_region_list <| st1 hS (mv rfl) rfl fun a w hS => st1 hS (bin rfl rfl rfl) rfl fun a w hS => st1 hS (mv rfl) rfl fun a w hS => g_op 2 false 18 (b := (decide (v145 < (144 : Int)))) (r := (decide (v145 ≥ (280 : Int)))) hS rfl rfl rfl rfl rfl rfl rfl (fun hb a w hS K hK => ?_) rfl fun a w hS => ?_
    ·refine st1g hS rfl rfl rfl hb (mv rfl) rfl fun a w hS => ?_
     refine st1g hS rfl rfl rfl hb (bin rfl rfl rfl) rfl fun a w hS => ?_
     exact wpList_nil (hK _ _ (hS.up 2 rfl rfl))
    refine st1x (v := Value.bool) (x0 := ((decide (v145 < (144 : Int))) || (decide (v145 ≥ (280 : Int))))) hS (asg rfl) rfl fun v148 a w hz hS => ?_
    have hM := lt_to hz hM; clear hz
    refine wpList_nil <| then_n <| s_cond hS rfl hM (fun hb149 hM => ?_) (fun hb149 hM => ?_)
    ·refine wp_region_list ?_
     refine st1 hS (mv rfl) rfl fun a w hS => st1 hS (mv rfl) rfl fun a w hS => ?_
     obtain ⟨hk150, hM⟩ := wp_chk hM
     refine st1 hS (ixV rfl rfl Tryd.runUnderlying45 Tryd.sizeOf3 (hV144.rd (i := 6) rfl) (fun _ => rfl) rfl hk150) rfl fun a w hS => stV (i := v145) (sz := 1) 6 0 ((8 : Int)) hS rfl rfl hV144 rfl Tryd.sizeOf3 (one_t3 (8 : Int)) (fun _ => rfl) hk150 rfl rfl fun zs153 w f151 hz hz154 hV152 hS => ?_
     have hM := lt_to hz hM; clear hz
     replace hS := hS.re 2 (u := .slice A111 l_142.length c112) (v := .slice A111 zs153.length c112) rfl (by rw [hz154])
     replace hS := hS.re 22 (u := .slice A111 l_142.length c112) (v := .slice A111 zs153.length c112) rfl (by rw [hz154])
     refine wpList_nil <| blk_n (blk_n (then_n ?_))
     refine wp_region_list <| st1 hS (bin rfl rfl rfl) rfl fun a w hS => st1 hS (mv rfl) rfl fun a w hS => wpList_nil <| then_n ?_
     exact hJ167 _ _ ⟨zs153, f151, (w64 (v145 + (1 : Int))), hS.to [0, 1, 2, 3, 4, 5, 6] (by kernel_rfl) ⟨rfl, rfl, rfl, rfl, rfl, trivial⟩, hV152, hM⟩
    ·refine wp_seq ?_
     refine wp_region_list <| st1 hS (mv rfl) rfl fun a w hS => st1 hS (bin rfl rfl rfl) rfl fun a w hS => st1x (v := Value.bool) (x0 := (decide (v145 < (256 : Int)))) hS (asg rfl) rfl fun v155 a w hz hS => ?_
     have hM := lt_to hz hM; clear hz
     refine wpList_nil <| then_n <| s_cond hS rfl hM (fun hb156 hM => ?_) (fun hb156 hM => ?_)
     ·refine wp_region_list ?_
      refine st1 hS (mv rfl) rfl fun a w hS => st1 hS (mv rfl) rfl fun a w hS => ?_
      obtain ⟨hk157, hM⟩ := wp_chk hM
      refine st1 hS (ixV rfl rfl Tryd.runUnderlying45 Tryd.sizeOf3 (hV144.rd (i := 6) rfl) (fun _ => rfl) rfl hk157) rfl fun a w hS => stV (i := v145) (sz := 1) 6 0 ((9 : Int)) hS rfl rfl hV144 rfl Tryd.sizeOf3 (one_t3 (9 : Int)) (fun _ => rfl) hk157 rfl rfl fun zs160 w f158 hz hz161 hV159 hS => ?_
      have hM := lt_to hz hM; clear hz
      replace hS := hS.re 2 (u := .slice A111 l_142.length c112) (v := .slice A111 zs160.length c112) rfl (by rw [hz161])
      replace hS := hS.re 28 (u := .slice A111 l_142.length c112) (v := .slice A111 zs160.length c112) rfl (by rw [hz161])
      refine wpList_nil <| blk_n (blk_n (then_n ?_))
      refine wp_region_list <| st1 hS (bin rfl rfl rfl) rfl fun a w hS => st1 hS (mv rfl) rfl fun a w hS => wpList_nil <| then_n ?_
      exact hJ167 _ _ ⟨zs160, f158, (w64 (v145 + (1 : Int))), hS.to [0, 1, 2, 3, 4, 5, 6] (by kernel_rfl) ⟨rfl, rfl, rfl, rfl, rfl, trivial⟩, hV159, hM⟩
     ·refine wp_region_list ?_
      refine st1 hS (mv rfl) rfl fun a w hS => st1 hS (mv rfl) rfl fun a w hS => ?_
      obtain ⟨hk162, hM⟩ := wp_chk hM
      refine st1 hS (ixV rfl rfl Tryd.runUnderlying45 Tryd.sizeOf3 (hV144.rd (i := 6) rfl) (fun _ => rfl) rfl hk162) rfl fun a w hS => stV (i := v145) (sz := 1) 6 0 ((7 : Int)) hS rfl rfl hV144 rfl Tryd.sizeOf3 (one_t3 (7 : Int)) (fun _ => rfl) hk162 rfl rfl fun zs165 w f163 hz hz166 hV164 hS => ?_
      have hM := lt_to hz hM; clear hz
      replace hS := hS.re 2 (u := .slice A111 l_142.length c112) (v := .slice A111 zs165.length c112) rfl (by rw [hz166])
      replace hS := hS.re 12 (u := .slice A111 l_142.length c112) (v := .slice A111 zs165.length c112) rfl (by rw [hz166])
      refine wpList_nil <| blk_n (blk_n (then_n ?_))
      refine wp_region_list <| st1 hS (bin rfl rfl rfl) rfl fun a w hS => st1 hS (mv rfl) rfl fun a w hS => wpList_nil <| then_n ?_
      exact hJ167 _ _ ⟨zs165, f163, (w64 (v145 + (1 : Int))), hS.to [0, 1, 2, 3, 4, 5, 6] (by kernel_rfl) ⟨rfl, rfl, rfl, rfl, rfl, trivial⟩, hV164, hM⟩
   ·refine wp_exit ?_
    refine then_ex (then_ex (blk_same (then_n ?_)))
    exact hJ171 _ _ ⟨l_142, f143, hS.to [0, 1, 2, 3, 4, 5, 6] (by kernel_rfl) ⟨rfl, rfl, rfl, trivial⟩, hV144, hM⟩
 ·intro a w hI
  obtain ⟨l_168, f169, hS, hV170, hM⟩ := hI
  rw [deflate_fixedCodes.j2] at hM
  refine wp_seq <| wp_region_list ?_
  obtain ⟨hk172, hM⟩ := wp_chk hM
  refine mkS (g := (ci .i64)) (m := (32 : Int)) (0 : Int) hS rfl rfl (by simp) Tryd.runUnderlying45 X.el3 (fun w => ⟨_, Tryd.zeroValue3 w, rfl⟩) (fun _ => rfl) rfl rfl hk172 rfl fun zs177 w A173 c174 f175 hz hV176 hS => ?_
  have hM := lt_to hz hM; clear hz
  refine st1 hS (asg rfl) rfl fun a w hS => wpList_nil <| then_n <| seq_joinJ (fun a w => ∃ (d202 : (List Int)) (f203 : Frag), Ss 46 [] [(0, ptr b96 0), (1, ptr b103 0), (2, .slice A111 l_168.length c112), (4, .slice A173 d202.length c174)] H [f97, f99, f101, f104, f106, f108, f169, f203] F a w ∧ (Vec 3 (ci .i64) 1 A173 d202 c174 f203) ∧ (deflate_fixedCodes.j4 K l_168 d202).wp kr kp) (fun J205 hJ205 => ?_) ?_
  ·refine wp_seq ?_
   refine wp_region_list <| st1 hS (mv rfl) rfl fun a w hS => st1 hS (lenV rfl Tryd.runUnderlying45) rfl fun a w hS => st1 hS (mv rfl) rfl fun a w hS => wpList_nil <| then_n <| wp_block <| s_loopJ (fun k194 a w => ∃ (d190 : (List Int)) (f191 : Frag) (v193 : Int), Ss 46 [] [(0, ptr b96 0), (1, ptr b103 0), (2, .slice A111 l_168.length c112), (4, .slice A173 d190.length c174), (34, .int .i64 (zs177.length : Int)), (35, .int .i64 v193)] H [f97, f99, f101, f104, f106, f108, f169, f191] F a w ∧ (Vec 3 (ci .i64) 1 A173 d190 c174 f191) ∧ (deflate_fixedCodes.l3 K l_168 zs177 k194 d190 v193).wp kr kp) K ?_ ?_ ?_
   ·exact ⟨zs177, f175, (0 : Int), hS.to [1, 2, 3, 4, 5, 6, 7, 0] (by kernel_rfl) ⟨rfl, rfl, rfl, rfl, rfl, rfl, trivial⟩, hV176, hM⟩
   ·intro a w hI; obtain ⟨_, _, _, _, _, hM⟩ := hI; exact wp_fail hM
   ·intro k194 a w hI J201 hJ201
    obtain ⟨d190, f191, v193, hS, hV192, hM⟩ := hI
    rw [deflate_fixedCodes.l3] at hM
    refine wp_seq <| wp_region_list <| st1 hS (bin rfl rfl rfl) rfl fun a w hS => wpList_nil <| then_n <| wp_seq <| s_cond hS rfl hM (fun hb195 hM => ?_) (fun hb195 hM => ?_)
    ·refine wp_skip ?_
     refine then_n <| wp_seq <| wp_block <| wp_seq <| wp_region_list <| st1 hS (mv rfl) rfl fun a w hS => st1 hS (asg rfl) rfl fun a w hS => wpList_nil <| then_n <| wp_region_list <| st1 hS (mv rfl) rfl fun a w hS => st1 hS (mv rfl) rfl fun a w hS => ?_
     obtain ⟨hk196, hM⟩ := wp_chk hM
     refine st1 hS (ixV rfl rfl Tryd.runUnderlying45 Tryd.sizeOf3 (hV192.rd (i := 7) rfl) (fun _ => rfl) rfl hk196) rfl fun a w hS => stV (i := v193) (sz := 1) 7 0 ((5 : Int)) hS rfl rfl hV192 rfl Tryd.sizeOf3 (one_t3 (5 : Int)) (fun _ => rfl) hk196 rfl rfl fun zs199 w f197 hz hz200 hV198 hS => ?_
     have hM := lt_to hz hM; clear hz
     replace hS := hS.re 4 (u := .slice A173 d190.length c174) (v := .slice A173 zs199.length c174) rfl (by rw [hz200])
     replace hS := hS.re 38 (u := .slice A173 d190.length c174) (v := .slice A173 zs199.length c174) rfl (by rw [hz200])
     refine wpList_nil <| blk_n (then_n ?_)
     refine wp_region_list <| st1 hS (bin rfl rfl rfl) rfl fun a w hS => st1 hS (mv rfl) rfl fun a w hS => wpList_nil <| then_n ?_
     exact hJ201 _ _ ⟨zs199, f197, (w64 (v193 + (1 : Int))), hS.to [0, 1, 2, 3, 4, 5, 6, 7] (by kernel_rfl) ⟨rfl, rfl, rfl, rfl, rfl, rfl, trivial⟩, hV198, hM⟩
    ·refine wp_exit ?_
     refine then_ex (then_ex (blk_same (then_n ?_)))
     exact hJ205 _ _ ⟨d190, f191, hS.to [0, 1, 2, 3, 4, 5, 6, 7] (by kernel_rfl) ⟨rfl, rfl, rfl, rfl, trivial⟩, hV192, hM⟩
  ·intro a w hI
   obtain ⟨d202, f203, hS, hV204, hM⟩ := hI
   rw [deflate_fixedCodes.j4] at hM
   refine wp_seq <| wp_region_list <| st1 hS (mv rfl) rfl fun a w hS => s_call hS rfl Tryd.call37 (deflate_coded_c hG K l_168 A111 c112 (hV170.rdF (i := 6) rfl) (hV170.cap (fun _ => rfl) rfl) (hS.st.part 0 [0, 1, 2, 3, 4, 5, 6, 7] (by kernel_rfl)) (wp_bind hM) (fun A457 c458 codes459 f460 w hM h461 hst => s_back hS.ev hst.appF rfl fun hS => ?_))
   replace hS : Ss _ _ _ H [f460, f97, f99, f101, f104, f106, f108, f169, f203] F _ _ := hS
   refine st1 hS (mv rfl) rfl fun a w hS => s_call hS rfl Tryd.call37 (deflate_coded_c hG K d202 A173 c174 (hV204.rdF (i := 8) rfl) (hV204.cap (fun _ => rfl) rfl) (hS.st.part 0 [0, 1, 2, 3, 4, 5, 6, 7, 8] (by kernel_rfl)) (wp_bind hM) (fun A462 c463 codes464 f465 w hM h466 hst => s_back hS.ev hst.appF rfl fun hS => ?_))
   replace hS : Ss _ _ _ H [f465, f460, f97, f99, f101, f104, f106, f108, f169, f203] F _ _ := hS
   refine stB 2 ([.slice A111 l_168.length c112, .slice A457 codes459.length c458]) ([.slice A111 l_168.length c112, .slice A457 codes459.length c458]) hS rfl rfl hB98 rfl rfl Tryd.sizeOf47 (by simp [Value.oneCell']) (Nat.le_of_ble_eq_true rfl) rfl fun w f467 hB468 hS => stB 5 ([.slice A173 d202.length c174, .slice A462 codes464.length c463]) ([.slice A173 d202.length c174, .slice A462 codes464.length c463]) hS rfl rfl hB105 rfl rfl Tryd.sizeOf47 (by simp [Value.oneCell']) (Nat.le_of_ble_eq_true rfl) rfl fun w f469 hB470 hS => wpList_nil <| then_n <| wp_ret ?_
   exact s_retC (vs := [.agg ⟨[.slice A111 l_168.length c112, .slice A457 codes459.length c458]⟩, .agg ⟨[.slice A173 d202.length c174, .slice A462 codes464.length c463]⟩]) hS rfl (by exact ⟨rvA 2 ([.slice A111 l_168.length c112, .slice A457 codes459.length c458]) rfl hB468 rfl rfl rfl Tryd.isAgg47 Tryd.sizeOf47, rvA 5 ([.slice A173 d202.length c174, .slice A462 codes464.length c463]) rfl hB470 rfl rfl rfl Tryd.isAgg47 Tryd.sizeOf47, trivial⟩) (hret A111 c112 l_168 f169 A457 c458 codes459 f460 A173 c174 d202 f203 A462 c463 codes464 f465 w (wp_ok hM) hV170 h461 hV204 h466 (hS.st.pick [8, 1, 9, 0] (by kernel_rfl)))

theorem bits_Writer_Put_deflate_writer_c {H : Imm} {F : List Frag} {w : World} {R : Ending → World → Prop} {kr : (Int × Int × (List Int)) → Prop} {kp : Value → Prop} (hG : Gl H) (K : Nat) (w_515 : T_deflate_writer) (v539 : Int) (n_540 : Int) (b516 : Nat) (f517 : Frag) (A519 : Option Addr) (c520 : Nat) (f521 : Frag) (A523 : Option Addr) (c524 : Nat) (f525 : Frag) (A527 : Option Addr) (c528 : Nat) (f529 : Frag) (A531 : Option Addr) (c532 : Nat) (f533 : Frag) (A535 : Option Addr) (c536 : Nat) (f537 : Frag) (hB518 : Blk f517 b516 ([.int .i64 w_515.Writer_.place_.at_, .slice A519 w_515.Writer_.bytes_.length c520, .slice A523 w_515.literals_.lengths_.length c524, .slice A527 w_515.literals_.codes_.length c528, .slice A531 w_515.distances_.lengths_.length c532, .slice A535 w_515.distances_.codes_.length c536]) 49) (hV522 : Vec 5 (ci .u8) 1 A519 w_515.Writer_.bytes_ c520 f521) (hV526 : Vec 3 (ci .i64) 1 A523 w_515.literals_.lengths_ c524 f525) (hV530 : Vec 3 (ci .i64) 1 A527 w_515.literals_.codes_ c528 f529) (hV534 : Vec 3 (ci .i64) 1 A531 w_515.distances_.lengths_ c532 f533) (hV538 : Vec 3 (ci .i64) 1 A535 w_515.distances_.codes_ c536 f537)
    (hS : St w H [f517, f521, f525, f529, f533, f537] F) (hm : (bits_Writer_Put_deflate_writer.m K w_515 v539 n_540).wp kr kp)
    (hret : ∀ (x646 : Int) (at_647 : Int) (A648 : Option Addr) (c649 : Nat) (bytes650 : (List Int)) (f651 : Frag) (f653 : Frag) (w : World), kr (x646, at_647, bytes650) → (Vec 5 (ci .u8) 1 A648 bytes650 c649 f651) → (Blk f653 b516 ([.int .i64 at_647, .slice A648 bytes650.length c649, .slice A523 w_515.literals_.lengths_.length c524, .slice A527 w_515.literals_.codes_.length c528, .slice A531 w_515.distances_.lengths_.length c532, .slice A535 w_515.distances_.codes_.length c536]) 49) → St w H [f653, f651, f525, f529, f533, f537] F → R (.returned (.int .i64 x646)) w) :
    Calls Tryd.prog 23 ⟨[ptr b516 0, .int .u32 v539, .int .i64 n_540]⟩ w R := by
 refine enter Tryd.func23 rfl Tryd.ntmps23 rfl hS fun a w hS => ?_
 have hM := hm; clear hm
 rw [bits_Writer_Put_deflate_writer.m] at hM
 refine wp_seq <| wp_region_list <| st1 hS (asg rfl) rfl fun a w hS => wpList_nil <| then_n <| wp_seq <| wp_seq <| wp_region_list <| st1 hS (mv rfl) rfl fun a w hS => st1 hS (eqNil rfl rfl Tryd.runUnderlying103) rfl fun a w hS => st1 hS (mv rfl) rfl fun a w hS => st1g hS rfl rfl rfl rfl (mv rfl) rfl fun a w hS => st1g hS rfl rfl rfl rfl (bin rfl rfl rfl) rfl fun a w hS => st1 hS (pk rfl rfl rfl) rfl fun a w hS => st1 hS (mv rfl) rfl fun a w hS => g_op 2 false 14 (b := (decide (n_540 < (0 : Int)))) (r := (decide (n_540 > (32 : Int)))) hS rfl rfl rfl rfl rfl rfl rfl (fun hb a w hS K hK => ?_) rfl fun a w hS => ?_
 ·refine st1g hS rfl rfl rfl hb (mv rfl) rfl fun a w hS => ?_
  refine st1g hS rfl rfl rfl hb (bin rfl rfl rfl) rfl fun a w hS => ?_
  exact wpList_nil (hK _ _ (hS.up 2 rfl rfl))
 refine st1 hS (mv rfl) rfl fun a w hS => ?_
 obtain ⟨hk543, hM⟩ := wp_chk hM
 refine g_op 5 false 18 (b := ((decide (n_540 < (0 : Int))) || (decide (n_540 > (32 : Int))))) (r := (decide ((ishr .u64 (wr .u64 v539) n_540) > (0 : Int)))) hS rfl rfl rfl rfl rfl rfl rfl (fun hb a w hS K hK => ?_) rfl fun a w hS => ?_
 ·refine st1g hS rfl rfl rfl hb (mv rfl) rfl fun a w hS => ?_
  refine st1g hS rfl rfl rfl hb (cvi rfl Tryd.runUnderlying53 Tryd.runUnderlying104) rfl fun a w hS => st1g hS rfl rfl rfl hb (mv rfl) rfl fun a w hS => ?_
  have hk542 := imp_of hk543 hb
  refine st1g hS rfl rfl rfl hb (shr rfl rfl hk542) rfl fun a w hS => st1g hS rfl rfl rfl hb (bin rfl rfl rfl) rfl fun a w hS => ?_
  exact wpList_nil (hK _ _ (hS.up 5 rfl rfl))
 refine wpList_nil <| then_n <| s_cond hS rfl hM (fun hb544 hM => ?_) (fun hb544 hM => ?_)
 ·refine wp_seq ?_
  refine wp_region_list <| st1 hS (asg rfl) rfl fun a w hS => wpList_nil <| then_n <| wp_ret <| then_ret ?_
  exact s_ret (rs := [6]) hS rfl rfl (hret (1 : Int) w_515.Writer_.place_.at_ A519 c520 w_515.Writer_.bytes_ f521 f517 w (wp_ok hM) hV522 hB518 (hS.st.pick [0, 1, 2, 3, 4, 5] (by kernel_rfl)))
 ·refine wp_skip ?_
  refine then_n <| wp_seq <| wp_block <| s_loopJ (fun k606 a w => ∃ (at_596 : Int) (A597 : Option Addr) (c598 : Nat) (bytes599 : (List Int)) (f600 : Frag) (f602 : Frag) (v604 : Int) (n_605 : Int), Ss 95 [] [(0, ptr b516 0), (1, .int .u32 v604), (2, .int .i64 n_605)] H [f602, f600, f525, f529, f533, f537] F a w ∧ (Vec 5 (ci .u8) 1 A597 bytes599 c598 f600) ∧ (Blk f602 b516 ([.int .i64 at_596, .slice A597 bytes599.length c598, .slice A523 w_515.literals_.lengths_.length c524, .slice A527 w_515.literals_.codes_.length c528, .slice A531 w_515.distances_.lengths_.length c532, .slice A535 w_515.distances_.codes_.length c536]) 49) ∧ (bits_Writer_Put_deflate_writer.l1 K k606 at_596 bytes599 v604 n_605).wp kr kp) K ?_ ?_ ?_
  ·exact ⟨w_515.Writer_.place_.at_, A519, c520, w_515.Writer_.bytes_, f521, f517, v539, n_540, hS.to [0, 1, 2, 3, 4, 5] (by kernel_rfl) ⟨rfl, rfl, rfl, trivial⟩, hV522, hB518, hM⟩
  ·intro a w hI; obtain ⟨_, _, _, _, _, _, _, _, _, _, _, hM⟩ := hI; exact wp_fail hM
  ·intro k606 a w hI J645 hJ645
   obtain ⟨at_596, A597, c598, bytes599, f600, f602, v604, n_605, hS, hV601, hB603, hM⟩ := hI
   rw [bits_Writer_Put_deflate_writer.l1] at hM
   refine wp_seq <| wp_seq <| wp_region_list <| st1 hS (mv rfl) rfl fun a w hS => st1 hS (bin rfl rfl rfl) rfl fun a w hS => wpList_nil <| then_n <| s_cond hS rfl hM (fun hb607 hM => ?_) (fun hb607 hM => ?_)
   ·refine wp_skip ?_
    refine then_n <| wp_block <| seq_joinJ (fun a w => ∃ (A621 : Option Addr) (c622 : Nat) (bytes623 : (List Int)) (f624 : Frag) (f626 : Frag), Ss 95 [] [(0, ptr b516 0), (1, .int .u32 v604), (2, .int .i64 n_605)] H [f626, f624, f525, f529, f533, f537] F a w ∧ (Vec 5 (ci .u8) 1 A621 bytes623 c622 f624) ∧ (Blk f626 b516 ([.int .i64 at_596, .slice A621 bytes623.length c622, .slice A523 w_515.literals_.lengths_.length c524, .slice A527 w_515.literals_.codes_.length c528, .slice A531 w_515.distances_.lengths_.length c532, .slice A535 w_515.distances_.codes_.length c536]) 49) ∧ (bits_Writer_Put_deflate_writer.j2 K (bits_Writer_Put_deflate_writer.l1 K k606) at_596 v604 n_605 bytes623).wp kr kp) (fun J628 hJ628 => ?_) ?_
    ·refine wp_seq ?_
     refine wp_region_list <| st1 hS (mv rfl) rfl fun a w hS => st1 hS (nck rfl) rfl fun a w hS => st1 hS (fad rfl Tryd.runUnderlying44 rfl Tryd.sizeOf42 rfl) rfl fun a w hS => st1 hS (fad rfl Tryd.runUnderlying42 rfl Tryd.sizeOf3 rfl) rfl fun a w hS => st1 hS (ldb 0 rfl hB603 rfl rfl Tryd.isAgg3) rfl fun a w hS => st1 hS (bin rfl rfl rfl) rfl fun a w hS => st1 hS (bin rfl rfl rfl) rfl fun a w hS => wpList_nil <| then_n <| s_cond hS rfl hM (fun hb608 hM => ?_) (fun hb608 hM => ?_)
     ·refine wp_region_list ?_
      refine st1 hS (mv rfl) rfl fun a w hS => st1 hS (mv rfl) rfl fun a w hS => st1 hS (nck rfl) rfl fun a w hS => st1 hS (fad rfl Tryd.runUnderlying44 rfl Tryd.sizeOf38 rfl) rfl fun a w hS => st1 hS (ldb 0 rfl hB603 rfl rfl Tryd.isAgg38) rfl fun a w hS => bsl (g := (ci .u8)) ([(0 : Int)] : List Int) [.int .u8 (0 : Int)] hS Tryd.runUnderlying38 Tryd.sizeOf5 X.el5 rfl rfl rfl (by simp [Value.cells]) rfl rfl rfl rfl rfl fun w A609 c610 f611 hV612 hS => ?_
      obtain ⟨hk613, hM⟩ := wp_chk hM
      refine apV (ys := ([(0 : Int)] : List Int)) 2 hS rfl rfl hV601 rfl (hV612.rd (i := 0) rfl) Tryd.runUnderlying38 Tryd.runUnderlying38 X.el5 (fun _ => rfl) rfl one_t5 hk613 rfl fun zs618 w A614 c615 f616 hz hV617 hS => ?_
      have hM := lt_to hz hM; clear hz
      refine st1 hS (nck rfl) rfl fun a w hS => st1 hS (fad rfl Tryd.runUnderlying44 rfl Tryd.sizeOf38 rfl) rfl fun a w hS => sto 1 ([.int .i64 at_596, .slice A614 zs618.length c615, .slice A523 w_515.literals_.lengths_.length c524, .slice A527 w_515.literals_.codes_.length c528, .slice A531 w_515.distances_.lengths_.length c532, .slice A535 w_515.distances_.codes_.length c536]) hS rfl rfl hB603 rfl rfl rfl rfl Tryd.sizeOf38 fun w f619 hB620 hS => wpList_nil <| then_n ?_
      exact hJ628 _ _ ⟨A614, c615, zs618, f616, f619, hS.to [1, 2, 3, 4, 5, 6] (by kernel_rfl) ⟨rfl, rfl, rfl, trivial⟩, hV617, hB620, hM⟩
     ·refine wp_skip ?_
      refine then_n ?_
      exact hJ628 _ _ ⟨A597, c598, bytes599, f600, f602, hS.to [0, 1, 2, 3, 4, 5] (by kernel_rfl) ⟨rfl, rfl, rfl, trivial⟩, hV601, hB603, hM⟩
    ·intro a w hI
     obtain ⟨A621, c622, bytes623, f624, f626, hS, hV625, hB627, hM⟩ := hI
     rw [bits_Writer_Put_deflate_writer.j2] at hM
     refine wp_seq <| wp_region_list <| st1 hS (mv rfl) rfl fun a w hS => st1 hS (nck rfl) rfl fun a w hS => st1 hS (fad rfl Tryd.runUnderlying44 rfl Tryd.sizeOf42 rfl) rfl fun a w hS => st1 hS (fad rfl Tryd.runUnderlying42 rfl Tryd.sizeOf3 rfl) rfl fun a w hS => st1 hS (ldb 0 rfl hB627 rfl rfl Tryd.isAgg3) rfl fun a w hS => st1 hS (bin rfl rfl rfl) rfl fun a w hS => st1 hS (bin rfl rfl rfl) rfl fun a w hS => st1 hS (mv rfl) rfl fun a w hS => st1 hS (minI rfl rfl) rfl fun a w hS => st1x (v := Value.int .i64) (x0 := (if n_605 < (w64 ((8 : Int) - (iand .i64 at_596 (7 : Int)))) then n_605 else (w64 ((8 : Int) - (iand .i64 at_596 (7 : Int)))))) hS (asg rfl) rfl fun room629 a w hz hS => ?_
     have hM := lt_to hz hM; clear hz
     refine wpList_nil <| then_n <| wp_seq ?_
     obtain ⟨hk631, hM⟩ := wp_chk hM
     obtain ⟨hk633, hM⟩ := wp_chk hM
     obtain ⟨hk635, hM⟩ := wp_chk hM
     refine draw_begin (vals := [some (ptr b516 0), some (ptr b516 0), some (ptr b516 1), some (.slice A621 bytes623.length c622), some (ptr b516 0), some (ptr b516 0), some (ptr b516 0), some (ptr b516 0), some (.int .i64 at_596), some (.int .i64 (iquo .i64 at_596 (8 : Int))), some (slp A621 (Int.toNat (iquo .i64 at_596 (8 : Int)) * 1)), some (.int .u8 (rd bytes623 (iquo .i64 at_596 (8 : Int)))), some (.int .u32 v604), some (.int .i64 room629), some (.int .u32 (ishl .u32 (1 : Int) room629)), some (.int .u32 (wr .u32 ((ishl .u32 (1 : Int) room629) - (1 : Int)))), some (.int .u32 (iand .u32 v604 (wr .u32 ((ishl .u32 (1 : Int) room629) - (1 : Int))))), some (.int .u8 (wr .u8 (iand .u32 v604 (wr .u32 ((ishl .u32 (1 : Int) room629) - (1 : Int)))))), some (ptr b516 0), some (ptr b516 0), some (ptr b516 0), some (ptr b516 0), some (.int .i64 at_596), some (.int .i64 (iand .i64 at_596 (7 : Int))), some (.int .u8 (ishl .u8 (wr .u8 (iand .u32 v604 (wr .u32 ((ishl .u32 (1 : Int) room629) - (1 : Int))))) (iand .i64 at_596 (7 : Int)))), some (.int .u8 (ior .u8 (rd bytes623 (iquo .i64 at_596 (8 : Int))) (ishl .u8 (wr .u8 (iand .u32 v604 (wr .u32 ((ishl .u32 (1 : Int) room629) - (1 : Int))))) (iand .i64 at_596 (7 : Int))))), some (slp A621 (Int.toNat (iquo .i64 at_596 (8 : Int)) * 1)), none]) hS mixed rfl ?_
     intro l w ho hcl hA hst
     refine phq hA hst ho hcl navail nmust 27 [0, 1, 2, 3, 4, 5, 6, 7, 8, 9, 10, 11, 12, 13, 14, 15, 16, 17, 18, 19, 20, 21, 22, 23, 24, 25, 26] rfl rfl rfl rfl rfl (by exact ⟨nR rfl rfl rfl rfl rfl (by exact ovE (mv rfl) rfl), nR rfl rfl rfl rfl rfl (by exact ovE (nck rfl) rfl), nR rfl rfl rfl rfl rfl (by exact ovE (fad rfl Tryd.runUnderlying44 rfl Tryd.sizeOf38 rfl) rfl), nR rfl rfl rfl rfl rfl (by exact ovE (ldb 0 rfl hB627 rfl rfl Tryd.isAgg38) rfl), nR rfl rfl rfl rfl rfl (by exact ovE (mv rfl) rfl), nR rfl rfl rfl rfl rfl (by exact ovE (nck rfl) rfl), nR rfl rfl rfl rfl rfl (by exact ovE (fad rfl Tryd.runUnderlying44 rfl Tryd.sizeOf42 rfl) rfl), nR rfl rfl rfl rfl rfl (by exact ovE (fad rfl Tryd.runUnderlying42 rfl Tryd.sizeOf3 rfl) rfl), nR rfl rfl rfl rfl rfl (by exact ovE (ldb 0 rfl hB627 rfl rfl Tryd.isAgg3) rfl), nR rfl rfl rfl rfl rfl (by exact ovE (quo rfl rfl rfl) rfl), nR rfl rfl rfl rfl rfl (by exact ovE (ixV rfl rfl Tryd.runUnderlying38 Tryd.sizeOf5 (hV625.rd (i := 1) rfl) (fun _ => rfl) rfl hk631) rfl), nR rfl rfl rfl rfl rfl (by exact ovE (ldV0 rfl (hV625.rd (i := 1) rfl) (fun _ => rfl) hk631 rfl Tryd.isAgg5) rfl), nR rfl rfl rfl rfl rfl (by exact ovE (mv rfl) rfl), nR rfl rfl rfl rfl rfl (by exact ovE (mv rfl) rfl), nR rfl rfl rfl rfl rfl (by exact ovE (shl rfl rfl hk633) rfl), nR rfl rfl rfl rfl rfl (by exact ovE (bin rfl rfl rfl) rfl), nR rfl rfl rfl rfl rfl (by exact ovE (bin rfl rfl rfl) rfl), nR rfl rfl rfl rfl rfl (by exact ovE (cvi rfl Tryd.runUnderlying53 Tryd.runUnderlying5) rfl), nR rfl rfl rfl rfl rfl (by exact ovE (mv rfl) rfl), nR rfl rfl rfl rfl rfl (by exact ovE (nck rfl) rfl), nR rfl rfl rfl rfl rfl (by exact ovE (fad rfl Tryd.runUnderlying44 rfl Tryd.sizeOf42 rfl) rfl), nR rfl rfl rfl rfl rfl (by exact ovE (fad rfl Tryd.runUnderlying42 rfl Tryd.sizeOf3 rfl) rfl), nR rfl rfl rfl rfl rfl (by exact ovE (ldb 0 rfl hB627 rfl rfl Tryd.isAgg3) rfl), nR rfl rfl rfl rfl rfl (by exact ovE (bin rfl rfl rfl) rfl), nR rfl rfl rfl rfl rfl (by exact ovE (shl rfl rfl hk635) rfl), nR rfl rfl rfl rfl rfl (by exact ovE (bin rfl rfl rfl) rfl), nR rfl rfl rfl rfl rfl (by exact ovE (ixV rfl rfl Tryd.runUnderlying38 Tryd.sizeOf5 (hV625.rd (i := 1) rfl) (fun _ => rfl) rfl hk631) rfl), trivial⟩) fun D l a w ho hcl hav hpre hm hE hk hA hst => ?_
     have hS := (Ss.mk hE hst).env2 (e' := [(77, .int .u8 (ior .u8 (rd bytes623 (iquo .i64 at_596 (8 : Int))) (ishl .u8 (wr .u8 (iand .u32 v604 (wr .u32 ((ishl .u32 (1 : Int) room629) - (1 : Int))))) (iand .i64 at_596 (7 : Int))))), (78, slp A621 (Int.toNat (iquo .i64 at_596 (8 : Int)) * 1))]) ⟨rfl, rfl, trivial⟩
     refine op_of_nth rfl <| stV (i := (iquo .i64 at_596 (8 : Int))) (sz := 1) 1 0 ((ior .u8 (rd bytes623 (iquo .i64 at_596 (8 : Int))) (ishl .u8 (wr .u8 (iand .u32 v604 (wr .u32 ((ishl .u32 (1 : Int) room629) - (1 : Int))))) (iand .i64 at_596 (7 : Int))))) hS rfl rfl hV625 rfl Tryd.sizeOf5 (one_t5 (ior .u8 (rd bytes623 (iquo .i64 at_596 (8 : Int))) (ishl .u8 (wr .u8 (iand .u32 v604 (wr .u32 ((ishl .u32 (1 : Int) room629) - (1 : Int))))) (iand .i64 at_596 (7 : Int))))) (fun _ => rfl) hk631 rfl rfl fun zs638 w f636 hz hz639 hV637 hS => ?_
     have hM := lt_to hz hM; clear hz
     have hB640 : Blk f626 b516 ([.int .i64 at_596, .slice A621 zs638.length c622, .slice A523 w_515.literals_.lengths_.length c524, .slice A527 w_515.literals_.codes_.length c528, .slice A531 w_515.distances_.lengths_.length c532, .slice A535 w_515.distances_.codes_.length c536]) 49 := by rw [hz639]; exact hB627
     refine wpList_nil (then_n ?_)
     replace hst := hS.st
     obtain ⟨hcl, hmust, hav2, hA⟩ := dnN (vals' := [some (ptr b516 0), some (ptr b516 0), some (ptr b516 1), some (.slice A621 bytes623.length c622), some (ptr b516 0), some (ptr b516 0), some (ptr b516 0), some (ptr b516 0), some (.int .i64 at_596), some (.int .i64 (iquo .i64 at_596 (8 : Int))), some (slp A621 (Int.toNat (iquo .i64 at_596 (8 : Int)) * 1)), some (.int .u8 (rd bytes623 (iquo .i64 at_596 (8 : Int)))), some (.int .u32 v604), some (.int .i64 room629), some (.int .u32 (ishl .u32 (1 : Int) room629)), some (.int .u32 (wr .u32 ((ishl .u32 (1 : Int) room629) - (1 : Int)))), some (.int .u32 (iand .u32 v604 (wr .u32 ((ishl .u32 (1 : Int) room629) - (1 : Int))))), some (.int .u8 (wr .u8 (iand .u32 v604 (wr .u32 ((ishl .u32 (1 : Int) room629) - (1 : Int)))))), some (ptr b516 0), some (ptr b516 0), some (ptr b516 0), some (ptr b516 0), some (.int .i64 at_596), some (.int .i64 (iand .i64 at_596 (7 : Int))), some (.int .u8 (ishl .u8 (wr .u8 (iand .u32 v604 (wr .u32 ((ishl .u32 (1 : Int) room629) - (1 : Int))))) (iand .i64 at_596 (7 : Int)))), some (.int .u8 (ior .u8 (rd bytes623 (iquo .i64 at_596 (8 : Int))) (ishl .u8 (wr .u8 (iand .u32 v604 (wr .u32 ((ishl .u32 (1 : Int) room629) - (1 : Int))))) (iand .i64 at_596 (7 : Int))))), some (slp A621 (Int.toNat (iquo .i64 at_596 (8 : Int)) * 1)), some undef]) 27 [(0, 27), (1, 27), (2, 27), (3, 27), (4, 27), (5, 27), (6, 27), (7, 27), (8, 27), (9, 27), (10, 27), (11, 27), (12, 27), (13, 27), (14, 27), (15, 27), (16, 27), (17, 27), (18, 27), (19, 27), (20, 27), (21, 27), (22, 27), (23, 27), (24, 27), (25, 27), (26, 27)] hA hcl hav hm hpre rfl rfl rfl rfl rfl
     clear hm hav
     refine phqE hA hst ho hcl hmust [] rfl rfl rfl trivial fun a w hS => ?_
     replace hS := hS.env2 (e' := [(0, ptr b516 0), (1, .int .u32 v604), (2, .int .i64 n_605), (7, .int .i64 room629)]) ⟨rfl, rfl, rfl, rfl, trivial⟩
     refine then_n <| wp_seq <| wp_region_list <| st1 hS (mv rfl) rfl fun a w hS => st1 hS (mv rfl) rfl fun a w hS => st1 hS (shr rfl rfl hk633) rfl fun a w hS => st1x (v := Value.int .u32) (x0 := (ishr .u32 v604 room629)) hS (asg rfl) rfl fun v641 a w hz hS => ?_
     have hM := lt_to hz hM; clear hz
     refine wpList_nil <| then_n <| wp_seq <| wp_region_list <| st1 hS (mv rfl) rfl fun a w hS => st1 hS (nck rfl) rfl fun a w hS => st1 hS (fad rfl Tryd.runUnderlying44 rfl Tryd.sizeOf42 rfl) rfl fun a w hS => st1 hS (fad rfl Tryd.runUnderlying42 rfl Tryd.sizeOf3 rfl) rfl fun a w hS => st1 hS (ldb 0 rfl hB640 rfl rfl Tryd.isAgg3) rfl fun a w hS => st1 hS (mv rfl) rfl fun a w hS => st1 hS (bin rfl rfl rfl) rfl fun a w hS => st1 hS (nck rfl) rfl fun a w hS => st1 hS (fad rfl Tryd.runUnderlying44 rfl Tryd.sizeOf42 rfl) rfl fun a w hS => st1 hS (fad rfl Tryd.runUnderlying42 rfl Tryd.sizeOf3 rfl) rfl fun a w hS => sto 0 ([.int .i64 (w64 (at_596 + room629)), .slice A621 zs638.length c622, .slice A523 w_515.literals_.lengths_.length c524, .slice A527 w_515.literals_.codes_.length c528, .slice A531 w_515.distances_.lengths_.length c532, .slice A535 w_515.distances_.codes_.length c536]) hS rfl rfl hB640 rfl rfl rfl rfl Tryd.sizeOf3 fun w f642 hB643 hS => wpList_nil <| then_n <| wp_region_list <| st1 hS (mv rfl) rfl fun a w hS => st1 hS (mv rfl) rfl fun a w hS => st1 hS (bin rfl rfl rfl) rfl fun a w hS => st1x (v := Value.int .i64) (x0 := (w64 (n_605 - room629))) hS (asg rfl) rfl fun n_644 a w hz hS => ?_
     have hM := lt_to hz hM; clear hz
     refine wpList_nil <| blk_n (then_n ?_)
     exact hJ645 _ _ ⟨(w64 (at_596 + room629)), A621, c622, zs638, f636, f642, v641, n_644, hS.to [0, 1, 2, 3, 4, 5] (by kernel_rfl) ⟨rfl, rfl, rfl, trivial⟩, hV637, hB643, hM⟩
   ·refine wp_exit ?_
    refine then_ex (then_ex (blk_same (then_n ?_)))
    refine wp_seq <| wp_region_list <| st1 hS (asg rfl) rfl fun a w hS => wpList_nil <| then_n <| wp_ret ?_
    exact s_ret (rs := [6]) hS rfl rfl (hret (0 : Int) at_596 A597 c598 bytes599 f600 f602 w (wp_ok hM) hV601 hB603 (hS.st.pick [0, 1, 2, 3, 4, 5] (by kernel_rfl)))

theorem deflate_writer_symbol_1279_c {H : Imm} {F : List Frag} {w : World} {R : Ending → World → Prop} {kr : (Int × (List Int)) → Prop} {kp : Value → Prop} (hG : Gl H) (K : Nat) (w_703 : T_deflate_writer) (c_727 : T_deflate_code) (s728 : Int) (b704 : Nat) (f705 : Frag) (A707 : Option Addr) (c708 : Nat) (f709 : Frag) (A711 : Option Addr) (c712 : Nat) (f713 : Frag) (A715 : Option Addr) (c716 : Nat) (f717 : Frag) (A719 : Option Addr) (c720 : Nat) (f721 : Frag) (A723 : Option Addr) (c724 : Nat) (f725 : Frag) (hB706 : Blk f705 b704 ([.int .i64 w_703.Writer_.place_.at_, .slice A707 w_703.Writer_.bytes_.length c708, .slice A711 w_703.literals_.lengths_.length c712, .slice A715 w_703.literals_.codes_.length c716, .slice A719 w_703.distances_.lengths_.length c720, .slice A723 w_703.distances_.codes_.length c724]) 49) (hV710 : Vec 5 (ci .u8) 1 A707 w_703.Writer_.bytes_ c708 f709) (hV714 : Vec 3 (ci .i64) 1 A711 w_703.literals_.lengths_ c712 f713) (hV718 : Vec 3 (ci .i64) 1 A715 w_703.literals_.codes_ c716 f717) (hV722 : Vec 3 (ci .i64) 1 A719 w_703.distances_.lengths_ c720 f721) (hV726 : Vec 3 (ci .i64) 1 A723 w_703.distances_.codes_ c724 f725)
    (hS : St w H [f705, f709, f713, f717, f721, f725] F) (hm : (deflate_writer_symbol_1279.m K w_703 c_727 s728).wp kr kp)
    (hret : ∀ (at_786 : Int) (A787 : Option Addr) (c788 : Nat) (bytes789 : (List Int)) (f790 : Frag) (f792 : Frag) (w : World), kr (at_786, bytes789) → (Vec 5 (ci .u8) 1 A787 bytes789 c788 f790) → (Blk f792 b704 ([.int .i64 at_786, .slice A787 bytes789.length c788, .slice A711 w_703.literals_.lengths_.length c712, .slice A715 w_703.literals_.codes_.length c716, .slice A719 w_703.distances_.lengths_.length c720, .slice A723 w_703.distances_.codes_.length c724]) 49) → St w H [f792, f790, f713, f717, f721, f725] F → R (.returned (.tuple ⟨[]⟩)) w) :
    Calls Tryd.prog 41 ⟨[ptr b704 0, .agg ⟨[.slice A711 w_703.literals_.lengths_.length c712, .slice A715 w_703.literals_.codes_.length c716]⟩, .int .i64 s728]⟩ w R := by
 refine enter Tryd.func41 rfl Tryd.ntmps41 rfl hS fun a w hS => ?_
 have hM := hm; clear hm
 rw [deflate_writer_symbol_1279.m] at hM
 refine wp_seq <| wp_region_list <| bx ([.slice A711 w_703.literals_.lengths_.length c712, .slice A715 w_703.literals_.codes_.length c716]) hS rfl rfl rfl fun w b729 f730 hB731 hS => wpList_nil <| then_n <| wp_seq <| wp_region_list <| st1 hS (fad rfl Tryd.runUnderlying47 rfl Tryd.sizeOf45 rfl) rfl fun a w hS => st1 hS (ldb 0 rfl hB731 rfl rfl Tryd.isAgg45) rfl fun a w hS => st1 hS (mv rfl) rfl fun a w hS => ?_
 obtain ⟨hk732, hM⟩ := wp_chk hM
 refine st1 hS (ixV rfl rfl Tryd.runUnderlying45 Tryd.sizeOf3 (hV714.rd (i := 3) rfl) (fun _ => rfl) rfl hk732) rfl fun a w hS => st1 hS (ldV0 rfl (hV714.rd (i := 3) rfl) (fun _ => rfl) hk732 rfl Tryd.isAgg3) rfl fun a w hS => st1 hS (bin rfl rfl rfl) rfl fun a w hS => st1x (v := Value.int .i64) (x0 := (w64 ((rd w_703.literals_.lengths_ s728) - (1 : Int)))) hS (asg rfl) rfl fun i733 a w hz hS => ?_
 have hM := lt_to hz hM; clear hz
 refine wpList_nil <| then_n <| wp_block <| s_loopJ (fun k769 a w => ∃ (at_760 : Int) (A761 : Option Addr) (c762 : Nat) (bytes763 : (List Int)) (f764 : Frag) (f766 : Frag) (i768 : Int), Ss 30 [] [(0, ptr b704 0), (2, .int .i64 s728), (4, ptr b729 0), (6, .int .i64 i768)] H [f766, f764, f713, f717, f721, f725, f730] F a w ∧ (Vec 5 (ci .u8) 1 A761 bytes763 c762 f764) ∧ (Blk f766 b704 ([.int .i64 at_760, .slice A761 bytes763.length c762, .slice A711 w_703.literals_.lengths_.length c712, .slice A715 w_703.literals_.codes_.length c716, .slice A719 w_703.distances_.lengths_.length c720, .slice A723 w_703.distances_.codes_.length c724]) 49) ∧ (deflate_writer_symbol_1279.l1 K w_703 s728 k769 at_760 bytes763 i768).wp kr kp) K ?_ ?_ ?_
 ·exact ⟨w_703.Writer_.place_.at_, A707, c708, w_703.Writer_.bytes_, f709, f705, i733, hS.to [1, 2, 3, 4, 5, 6, 0] (by kernel_rfl) ⟨rfl, rfl, rfl, rfl, trivial⟩, hV710, hB706, hM⟩
 ·intro a w hI; obtain ⟨_, _, _, _, _, _, _, _, _, _, hM⟩ := hI; exact wp_fail hM
 ·intro k769 a w hI J785 hJ785
  obtain ⟨at_760, A761, c762, bytes763, f764, f766, i768, hS, hV765, hB767, hM⟩ := hI
  rw [deflate_writer_symbol_1279.l1] at hM
  refine wp_seq <| wp_seq <| wp_region_list <| st1 hS (mv rfl) rfl fun a w hS => st1 hS (bin rfl rfl rfl) rfl fun a w hS => wpList_nil <| then_n <| s_cond hS rfl hM (fun hb770 hM => ?_) (fun hb770 hM => ?_)
  ·refine wp_skip ?_
   refine then_n <| wp_seq <| wp_block ?_
   obtain ⟨hk772, hM⟩ := wp_chk hM
   obtain ⟨hk774, hM⟩ := wp_chk hM
   refine draw_begin (vals := [some (ptr b704 0), some (ptr b704 0), some (ptr b704 0), some (ptr b729 1), some (.slice A715 w_703.literals_.codes_.length c716), some (.int .i64 s728), some (slp A715 (Int.toNat s728 * 1)), some (.int .i64 (rd w_703.literals_.codes_ s728)), some (.int .i64 i768), some (.int .i64 (ishr .i64 (rd w_703.literals_.codes_ s728) i768)), some (.int .i64 (iand .i64 (ishr .i64 (rd w_703.literals_.codes_ s728) i768) (1 : Int))), some (.int .u32 (wr .u32 (iand .i64 (ishr .i64 (rd w_703.literals_.codes_ s728) i768) (1 : Int)))), none]) hS mixed rfl ?_
   intro l w ho hcl hA hst
   refine phq hA hst ho hcl navail nmust 12 [0, 1, 2, 3, 4, 5, 6, 7, 8, 9, 10, 11] rfl rfl rfl rfl rfl (by exact ⟨nR rfl rfl rfl rfl rfl (by exact ovE (mv rfl) rfl), nR rfl rfl rfl rfl rfl (by exact ovE (nck rfl) rfl), nR rfl rfl rfl rfl rfl (by exact ovE (fad rfl Tryd.runUnderlying49 rfl Tryd.sizeOf44 rfl) rfl), nR rfl rfl rfl rfl rfl (by exact ovE (fad rfl Tryd.runUnderlying47 rfl Tryd.sizeOf45 rfl) rfl), nR rfl rfl rfl rfl rfl (by exact ovE (ldb 6 rfl hB731 rfl rfl Tryd.isAgg45) rfl), nR rfl rfl rfl rfl rfl (by exact ovE (mv rfl) rfl), nR rfl rfl rfl rfl rfl (by exact ovE (ixV rfl rfl Tryd.runUnderlying45 Tryd.sizeOf3 (hV718.rd (i := 3) rfl) (fun _ => rfl) rfl hk772) rfl), nR rfl rfl rfl rfl rfl (by exact ovE (ldV0 rfl (hV718.rd (i := 3) rfl) (fun _ => rfl) hk772 rfl Tryd.isAgg3) rfl), nR rfl rfl rfl rfl rfl (by exact ovE (mv rfl) rfl), nR rfl rfl rfl rfl rfl (by exact ovE (shr rfl rfl hk774) rfl), nR rfl rfl rfl rfl rfl (by exact ovE (bin rfl rfl rfl) rfl), nR rfl rfl rfl rfl rfl (by exact ovE (cvi rfl Tryd.runUnderlying3 Tryd.runUnderlying53) rfl), trivial⟩) fun D l a w ho hcl hav hpre hm hE hk hA hst => ?_
   have hS := (Ss.mk hE hst).env2 (e' := [(19, ptr b704 0), (28, .int .u32 (wr .u32 (iand .i64 (ishr .i64 (rd w_703.literals_.codes_ s728) i768) (1 : Int))))]) ⟨rfl, rfl, trivial⟩
   refine op_of_nth rfl <| s_call hS rfl Tryd.call23 (bits_Writer_Put_deflate_writer_c hG K (T_deflate_writer.mk (T_bits_Writer.mk (T_bits_place.mk at_760) bytes763) w_703.literals_ w_703.distances_) (wr .u32 (iand .i64 (ishr .i64 (rd w_703.literals_.codes_ s728) i768) (1 : Int))) (1 : Int) b704 f766 A761 c762 f764 A711 c712 f713 A715 c716 f717 A719 c720 f721 A723 c724 f725 hB767 hV765 hV714 hV718 hV722 hV726 (hS.st.part 6 [0, 1, 2, 3, 4, 5, 6] (by kernel_rfl)) (wp_bind hM) (fun x775 at_776 A777 c778 bytes779 f780 f781 w hM h782 h783 hst => s_back hS.ev hst.appF rfl fun hS => ?_))
   replace hS : Ss _ _ _ H [f781, f780, f713, f717, f721, f725, f730] F _ _ := hS
   refine wpList_nil (then_n ?_)
   replace hst := hS.st
   obtain ⟨hcl, hmust, hav2, hA⟩ := dn (vals' := [some (ptr b704 0), some (ptr b704 0), some (ptr b704 0), some (ptr b729 1), some (.slice A715 w_703.literals_.codes_.length c716), some (.int .i64 s728), some (slp A715 (Int.toNat s728 * 1)), some (.int .i64 (rd w_703.literals_.codes_ s728)), some (.int .i64 i768), some (.int .i64 (ishr .i64 (rd w_703.literals_.codes_ s728) i768)), some (.int .i64 (iand .i64 (ishr .i64 (rd w_703.literals_.codes_ s728) i768) (1 : Int))), some (.int .u32 (wr .u32 (iand .i64 (ishr .i64 (rd w_703.literals_.codes_ s728) i768) (1 : Int)))), some (.int .i64 x775)]) 12 [(2, 12), (11, 12), (1, 2), (10, 11), (0, 1), (9, 10), (7, 9), (8, 9), (6, 7), (4, 6), (5, 6), (3, 4)] hA hcl hav hm hpre hk rfl rfl rfl rfl rfl rfl rfl
   clear hm hav
   refine phqE hA hst ho hcl hmust [] rfl rfl rfl trivial fun a w hS => ?_
   replace hS := hS.env2 (e' := [(0, ptr b704 0), (2, .int .i64 s728), (4, ptr b729 0), (6, .int .i64 i768)]) ⟨rfl, rfl, rfl, rfl, trivial⟩
   refine blk_n (then_n ?_)
   refine wp_region_list <| st1 hS (mv rfl) rfl fun a w hS => st1 hS (bin rfl rfl rfl) rfl fun a w hS => st1x (v := Value.int .i64) (x0 := (w64 (i768 - (1 : Int)))) hS (asg rfl) rfl fun i784 a w hz hS => ?_
   have hM := lt_to hz hM; clear hz
   refine wpList_nil <| then_n ?_
   exact hJ785 _ _ ⟨at_776, A777, c778, bytes779, f780, f781, i784, hS.to [0, 1, 2, 3, 4, 5, 6] (by kernel_rfl) ⟨rfl, rfl, rfl, rfl, trivial⟩, h782, h783, hM⟩
  ·refine wp_exit ?_
   refine then_ex (then_ex (blk_same ?_))
   exact s_end (rs := []) hS rfl rfl (hret at_760 A761 c762 bytes763 f764 f766 w (wp_ok hM) hV765 hB767 (hS.st.pick [0, 1, 2, 3, 4, 5] (by kernel_rfl)))

theorem deflate_scaled_c {H : Imm} {F : List Frag} {w : World} {R : Ending → World → Prop} {kr : (Int × Int × Int) → Prop} {kp : Value → Prop} (hG : Gl H) (K : Nat) (n_809 : Int) (told810 : Int)
    (hS : St w H [] F) (hm : (deflate_scaled.m K n_809 told810).wp kr kp)
    (hret : ∀ (symbol831 : Int) (bits832 : Int) (more833 : Int) (w : World), kr (symbol831, bits832, more833) → St w H [] F → R (.returned (.agg ⟨[.int .i64 symbol831, .int .i64 bits832, .int .u32 more833]⟩)) w) :
    Calls Tryd.prog 52 ⟨[.int .i64 n_809, .int .i64 told810]⟩ w R := by
 refine enter Tryd.func52 rfl Tryd.ntmps52 rfl hS fun a w hS => ?_
 have hM := hm; clear hm
 rw [deflate_scaled.m] at hM
 refine wp_seq <| wp_region_list <| alc ([.int .i64 (0 : Int), .int .i64 (0 : Int), .int .u32 (0 : Int)]) hS Tryd.zeroValue68 rfl rfl fun w b811 f812 hB813 hS => wpList_nil <| then_n <| wp_seq <| wp_region_list <| st1 hS (mv rfl) rfl fun a w hS => st1 hS (asg rfl) rfl fun a w hS => st1 hS (asg rfl) rfl fun a w hS => wpList_nil <| then_n <| seq_joinJ (fun a w => ∃ (k_822 : Int) (top823 : Int), Ss 29 [] [(0, .int .i64 n_809), (1, .int .i64 told810), (4, ptr b811 0), (5, .int .i64 k_822), (6, .int .i64 top823)] H [f812] F a w ∧ (deflate_scaled.j2 K n_809 told810 k_822 top823).wp kr kp) (fun J824 hJ824 => ?_) ?_
 ·refine wp_block ?_
  refine s_loopJ (fun k816 a w => ∃ (k_814 : Int) (top815 : Int), Ss 29 [] [(0, .int .i64 n_809), (1, .int .i64 told810), (4, ptr b811 0), (5, .int .i64 k_814), (6, .int .i64 top815)] H [f812] F a w ∧ (deflate_scaled.l1 K n_809 told810 k816 k_814 top815).wp kr kp) K ?_ ?_ ?_
  ·exact ⟨(0 : Int), n_809, hS.to [0] (by kernel_rfl) ⟨rfl, rfl, rfl, rfl, rfl, trivial⟩, hM⟩
  ·intro a w hI; obtain ⟨_, _, _, hM⟩ := hI; exact wp_fail hM
  ·intro k816 a w hI J821 hJ821
   obtain ⟨k_814, top815, hS, hM⟩ := hI
   rw [deflate_scaled.l1] at hM
   refine wp_seq <| wp_seq <| wp_region_list <| st1 hS (mv rfl) rfl fun a w hS => st1 hS (mv rfl) rfl fun a w hS => ?_
   obtain ⟨hk817, hM⟩ := wp_chk hM
   refine st1 hS (shl rfl rfl hk817) rfl fun a w hS => st1 hS (bin rfl rfl rfl) rfl fun a w hS => wpList_nil <| then_n <| s_cond hS rfl hM (fun hb818 hM => ?_) (fun hb818 hM => ?_)
   ·refine wp_skip ?_
    refine then_n <| wp_block <| wp_seq <| wp_region_list <| st1 hS (mv rfl) rfl fun a w hS => st1 hS (shr rfl rfl rfl) rfl fun a w hS => st1x (v := Value.int .i64) (x0 := (ishr .i64 top815 (1 : Int))) hS (asg rfl) rfl fun top819 a w hz hS => ?_
    have hM := lt_to hz hM; clear hz
    refine wpList_nil <| then_n <| wp_region_list <| st1 hS (mv rfl) rfl fun a w hS => st1 hS (bin rfl rfl rfl) rfl fun a w hS => st1x (v := Value.int .i64) (x0 := (w64 (k_814 + (1 : Int)))) hS (asg rfl) rfl fun k_820 a w hz hS => ?_
    have hM := lt_to hz hM; clear hz
    refine wpList_nil <| blk_n (then_n ?_)
    exact hJ821 _ _ ⟨k_820, top819, hS.to [0] (by kernel_rfl) ⟨rfl, rfl, rfl, rfl, rfl, trivial⟩, hM⟩
   ·refine wp_exit ?_
    refine then_ex (then_ex (blk_same (then_n ?_)))
    exact hJ824 _ _ ⟨k_814, top815, hS.to [0] (by kernel_rfl) ⟨rfl, rfl, rfl, rfl, rfl, trivial⟩, hM⟩
 ·intro a w hI
  obtain ⟨k_822, top823, hS, hM⟩ := hI
  rw [deflate_scaled.j2] at hM
  refine wp_seq ?_
  obtain ⟨hk826, hM⟩ := wp_chk hM
  obtain ⟨hk828, hM⟩ := wp_chk hM
  refine draw_begin (vals := [some (.int .i64 k_822), some (.int .i64 told810), some (.int .i64 (ishl .i64 k_822 told810)), some (.int .i64 top823), some (.int .i64 (w64 ((ishl .i64 k_822 told810) + top823))), some (.int .i64 k_822), some (.int .i64 n_809), some (.int .i64 top823), some (.int .i64 k_822), some (.int .i64 (ishl .i64 top823 k_822)), some (.int .i64 (w64 (n_809 - (ishl .i64 top823 k_822)))), some (.int .u32 (wr .u32 (w64 (n_809 - (ishl .i64 top823 k_822))))), some (.agg ⟨[.int .i64 (w64 ((ishl .i64 k_822 told810) + top823)), .int .i64 k_822, .int .u32 (wr .u32 (w64 (n_809 - (ishl .i64 top823 k_822))))]⟩), none]) hS mixed rfl ?_
  intro l w ho hcl hA hst
  refine phq hA hst ho hcl navail nmust 13 [0, 1, 2, 3, 4, 5, 6, 7, 8, 9, 10, 11, 12] rfl rfl rfl rfl rfl (by exact ⟨nR rfl rfl rfl rfl rfl (by exact ovE (mv rfl) rfl), nR rfl rfl rfl rfl rfl (by exact ovE (mv rfl) rfl), nR rfl rfl rfl rfl rfl (by exact ovE (shl rfl rfl hk826) rfl), nR rfl rfl rfl rfl rfl (by exact ovE (mv rfl) rfl), nR rfl rfl rfl rfl rfl (by exact ovE (bin rfl rfl rfl) rfl), nR rfl rfl rfl rfl rfl (by exact ovE (mv rfl) rfl), nR rfl rfl rfl rfl rfl (by exact ovE (mv rfl) rfl), nR rfl rfl rfl rfl rfl (by exact ovE (mv rfl) rfl), nR rfl rfl rfl rfl rfl (by exact ovE (mv rfl) rfl), nR rfl rfl rfl rfl rfl (by exact ovE (shl rfl rfl hk828) rfl), nR rfl rfl rfl rfl rfl (by exact ovE (bin rfl rfl rfl) rfl), nR rfl rfl rfl rfl rfl (by exact ovE (cvi rfl Tryd.runUnderlying3 Tryd.runUnderlying53) rfl), nR rfl rfl rfl rfl rfl (by exact ovE (bld ([.int .i64 (w64 ((ishl .i64 k_822 told810) + top823)), .int .i64 k_822, .int .u32 (wr .u32 (w64 (n_809 - (ishl .i64 top823 k_822))))]) [(0, 1), (1, 1), (2, 1)] Tryd.zeroValue68 Tryd.runUnderlying68 (by intro w; simp [Tryd.sizeOf3, Tryd.sizeOf53]) rfl rfl) rfl), trivial⟩) fun D l a w ho hcl hav hpre hm hE hk hA hst => ?_
  have hS := (Ss.mk hE hst).env2 (e' := [(4, ptr b811 0), (28, .agg ⟨[.int .i64 (w64 ((ishl .i64 k_822 told810) + top823)), .int .i64 k_822, .int .u32 (wr .u32 (w64 (n_809 - (ishl .i64 top823 k_822))))]⟩)]) ⟨rfl, rfl, trivial⟩
  refine op_of_nth rfl <| stB 0 ([.int .i64 (w64 ((ishl .i64 k_822 told810) + top823)), .int .i64 k_822, .int .u32 (wr .u32 (w64 (n_809 - (ishl .i64 top823 k_822))))]) ([.int .i64 (w64 ((ishl .i64 k_822 told810) + top823)), .int .i64 k_822, .int .u32 (wr .u32 (w64 (n_809 - (ishl .i64 top823 k_822))))]) hS rfl rfl hB813 rfl rfl Tryd.sizeOf68 (by simp [Value.oneCell']) (Nat.le_of_ble_eq_true rfl) rfl fun w f829 hB830 hS => wpList_nil (then_n ?_)
  replace hst := hS.st
  obtain ⟨hcl, hmust, hav2, hA⟩ := dnN (vals' := [some (.int .i64 k_822), some (.int .i64 told810), some (.int .i64 (ishl .i64 k_822 told810)), some (.int .i64 top823), some (.int .i64 (w64 ((ishl .i64 k_822 told810) + top823))), some (.int .i64 k_822), some (.int .i64 n_809), some (.int .i64 top823), some (.int .i64 k_822), some (.int .i64 (ishl .i64 top823 k_822)), some (.int .i64 (w64 (n_809 - (ishl .i64 top823 k_822)))), some (.int .u32 (wr .u32 (w64 (n_809 - (ishl .i64 top823 k_822))))), some (.agg ⟨[.int .i64 (w64 ((ishl .i64 k_822 told810) + top823)), .int .i64 k_822, .int .u32 (wr .u32 (w64 (n_809 - (ishl .i64 top823 k_822))))]⟩), some undef]) 13 [(0, 13), (1, 13), (2, 13), (3, 13), (4, 13), (5, 13), (6, 13), (7, 13), (8, 13), (9, 13), (10, 13), (11, 13), (12, 13)] hA hcl hav hm hpre rfl rfl rfl rfl rfl
  clear hm hav
  refine phqE hA hst ho hcl hmust [] rfl rfl rfl trivial fun a w hS => ?_
  replace hS := hS.env2 (e' := [(4, ptr b811 0)]) ⟨rfl, trivial⟩
  refine then_n <| wp_ret ?_
  exact s_retC (vs := [.agg ⟨[.int .i64 (w64 ((ishl .i64 k_822 told810) + top823)), .int .i64 k_822, .int .u32 (wr .u32 (w64 (n_809 - (ishl .i64 top823 k_822))))]⟩]) hS rfl (by exact ⟨rvA 0 ([.int .i64 (w64 ((ishl .i64 k_822 told810) + top823)), .int .i64 k_822, .int .u32 (wr .u32 (w64 (n_809 - (ishl .i64 top823 k_822))))]) rfl hB830 rfl rfl rfl Tryd.isAgg68 Tryd.sizeOf68, trivial⟩) (hret (w64 ((ishl .i64 k_822 told810) + top823)) k_822 (wr .u32 (w64 (n_809 - (ishl .i64 top823 k_822)))) w (wp_ok hM) (hS.st.pick [] (by kernel_rfl)))

theorem deflate_length_c {H : Imm} {F : List Frag} {w : World} {R : Ending → World → Prop} {kr : (Int × Int × Int) → Prop} {kp : Value → Prop} (hG : Gl H) (K : Nat) (n_802 : Int)
    (hS : St w H [] F) (hm : (deflate_length.m K n_802).wp kr kp)
    (hret : ∀ (symbol846 : Int) (bits847 : Int) (more848 : Int) (w : World), kr (symbol846, bits847, more848) → St w H [] F → R (.returned (.agg ⟨[.int .i64 symbol846, .int .i64 bits847, .int .u32 more848]⟩)) w) :
    Calls Tryd.prog 35 ⟨[.int .i64 n_802]⟩ w R := by
 refine enter Tryd.func35 rfl Tryd.ntmps35 rfl hS fun a w hS => ?_
 have hM := hm; clear hm
 rw [deflate_length.m] at hM
 refine wp_seq <| wp_region_list <| alc ([.int .i64 (0 : Int), .int .i64 (0 : Int), .int .u32 (0 : Int)]) hS Tryd.zeroValue68 rfl rfl fun w b803 f804 hB805 hS => wpList_nil <| then_n <| wp_seq <| wp_seq <| wp_region_list <| st1 hS (mv rfl) rfl fun a w hS => st1 hS (bin rfl rfl rfl) rfl fun a w hS => wpList_nil <| then_n <| s_cond hS rfl hM (fun hb806 hM => ?_) (fun hb806 hM => ?_)
 ·refine wp_seq ?_
  refine wp_region_list <| st1 hS (bld ([.int .i64 (285 : Int), .int .i64 (0 : Int), .int .u32 (0 : Int)]) [(0, 1), (1, 1), (2, 1)] Tryd.zeroValue68 Tryd.runUnderlying68 (by intro w; simp [Tryd.sizeOf3, Tryd.sizeOf53]) rfl rfl) rfl fun a w hS => stB 0 ([.int .i64 (285 : Int), .int .i64 (0 : Int), .int .u32 (0 : Int)]) ([.int .i64 (285 : Int), .int .i64 (0 : Int), .int .u32 (0 : Int)]) hS rfl rfl hB805 rfl rfl Tryd.sizeOf68 (by simp [Value.oneCell']) (Nat.le_of_ble_eq_true rfl) rfl fun w f807 hB808 hS => wpList_nil <| then_n <| wp_ret <| then_ret ?_
  exact s_retC (vs := [.agg ⟨[.int .i64 (285 : Int), .int .i64 (0 : Int), .int .u32 (0 : Int)]⟩]) hS rfl (by exact ⟨rvA 0 ([.int .i64 (285 : Int), .int .i64 (0 : Int), .int .u32 (0 : Int)]) rfl hB808 rfl rfl rfl Tryd.isAgg68 Tryd.sizeOf68, trivial⟩) (hret (285 : Int) (0 : Int) (0 : Int) w (wp_ok hM) (hS.st.pick [] (by kernel_rfl)))
 ·refine wp_skip ?_
  refine then_n <| wp_seq <| wp_region_list <| st1 hS (mv rfl) rfl fun a w hS => st1 hS (bin rfl rfl rfl) rfl fun a w hS => s_call hS rfl Tryd.call52 (deflate_scaled_c hG K (w64 (n_802 - (3 : Int))) (2 : Int) (hS.st.part 0 [0] (by kernel_rfl)) (wp_bind hM) (fun symbol834 bits835 more836 w hM  hst => s_back hS.ev hst.appF rfl fun hS => ?_))
  replace hS : Ss _ _ _ H [f804] F _ _ := hS
  refine alc ([.int .i64 (0 : Int), .int .i64 (0 : Int), .int .u32 (0 : Int)]) hS Tryd.zeroValue68 rfl rfl fun w b837 f838 hB839 hS => stB 0 ([.int .i64 symbol834, .int .i64 bits835, .int .u32 more836]) ([.int .i64 symbol834, .int .i64 bits835, .int .u32 more836]) hS rfl rfl hB839 rfl rfl Tryd.sizeOf68 (by simp [Value.oneCell']) (Nat.le_of_ble_eq_true rfl) rfl fun w f840 hB841 hS => wpList_nil <| then_n <| wp_seq <| wp_region_list <| st1 hS (fad rfl Tryd.runUnderlying68 rfl Tryd.sizeOf3 rfl) rfl fun a w hS => st1 hS (ldb 0 rfl hB841 rfl rfl Tryd.isAgg3) rfl fun a w hS => st1 hS (bin rfl rfl rfl) rfl fun a w hS => st1 hS (fad rfl Tryd.runUnderlying68 rfl Tryd.sizeOf3 rfl) rfl fun a w hS => sto 0 ([.int .i64 (w64 (symbol834 + (257 : Int))), .int .i64 bits835, .int .u32 more836]) hS rfl rfl hB841 rfl rfl rfl rfl Tryd.sizeOf3 fun w f842 hB843 hS => wpList_nil <| then_n <| wp_seq <| wp_region_list <| st1 hS (ldbA 0 rfl hB843 rfl ([.int .i64 (w64 (symbol834 + (257 : Int))), .int .i64 bits835, .int .u32 more836]) rfl rfl Tryd.isAgg68 Tryd.sizeOf68) rfl fun a w hS => stB 1 ([.int .i64 (w64 (symbol834 + (257 : Int))), .int .i64 bits835, .int .u32 more836]) ([.int .i64 (w64 (symbol834 + (257 : Int))), .int .i64 bits835, .int .u32 more836]) hS rfl rfl hB805 rfl rfl Tryd.sizeOf68 (by simp [Value.oneCell']) (Nat.le_of_ble_eq_true rfl) rfl fun w f844 hB845 hS => wpList_nil <| then_n <| wp_ret ?_
  exact s_retC (vs := [.agg ⟨[.int .i64 (w64 (symbol834 + (257 : Int))), .int .i64 bits835, .int .u32 more836]⟩]) hS rfl (by exact ⟨rvA 1 ([.int .i64 (w64 (symbol834 + (257 : Int))), .int .i64 bits835, .int .u32 more836]) rfl hB845 rfl rfl rfl Tryd.isAgg68 Tryd.sizeOf68, trivial⟩) (hret (w64 (symbol834 + (257 : Int))) bits835 more836 w (wp_ok hM) (hS.st.pick [] (by kernel_rfl)))

theorem deflate_writer_part_1279_c {H : Imm} {F : List Frag} {w : World} {R : Ending → World → Prop} {kr : (Int × (List Int)) → Prop} {kp : Value → Prop} (hG : Gl H) (K : Nat) (w_852 : T_deflate_writer) (c_876 : T_deflate_code) (p877 : T_deflate_part) (b853 : Nat) (f854 : Frag) (A856 : Option Addr) (c857 : Nat) (f858 : Frag) (A860 : Option Addr) (c861 : Nat) (f862 : Frag) (A864 : Option Addr) (c865 : Nat) (f866 : Frag) (A868 : Option Addr) (c869 : Nat) (f870 : Frag) (A872 : Option Addr) (c873 : Nat) (f874 : Frag) (hB855 : Blk f854 b853 ([.int .i64 w_852.Writer_.place_.at_, .slice A856 w_852.Writer_.bytes_.length c857, .slice A860 w_852.literals_.lengths_.length c861, .slice A864 w_852.literals_.codes_.length c865, .slice A868 w_852.distances_.lengths_.length c869, .slice A872 w_852.distances_.codes_.length c873]) 49) (hV859 : Vec 5 (ci .u8) 1 A856 w_852.Writer_.bytes_ c857 f858) (hV863 : Vec 3 (ci .i64) 1 A860 w_852.literals_.lengths_ c861 f862) (hV867 : Vec 3 (ci .i64) 1 A864 w_852.literals_.codes_ c865 f866) (hV871 : Vec 3 (ci .i64) 1 A868 w_852.distances_.lengths_ c869 f870) (hV875 : Vec 3 (ci .i64) 1 A872 w_852.distances_.codes_ c873 f874)
    (hS : St w H [f854, f858, f862, f866, f870, f874] F) (hm : (deflate_writer_part_1279.m K w_852 c_876 p877).wp kr kp)
    (hret : ∀ (at_901 : Int) (A902 : Option Addr) (c903 : Nat) (bytes904 : (List Int)) (f905 : Frag) (f907 : Frag) (w : World), kr (at_901, bytes904) → (Vec 5 (ci .u8) 1 A902 bytes904 c903 f905) → (Blk f907 b853 ([.int .i64 at_901, .slice A902 bytes904.length c903, .slice A860 w_852.literals_.lengths_.length c861, .slice A864 w_852.literals_.codes_.length c865, .slice A868 w_852.distances_.lengths_.length c869, .slice A872 w_852.distances_.codes_.length c873]) 49) → St w H [f907, f905, f862, f866, f870, f874] F → R (.returned (.tuple ⟨[]⟩)) w) :
    Calls Tryd.prog 50 ⟨[ptr b853 0, .agg ⟨[.slice A860 w_852.literals_.lengths_.length c861, .slice A864 w_852.literals_.codes_.length c865]⟩, .agg ⟨[.int .i64 p877.symbol_, .int .i64 p877.bits_, .int .u32 p877.more_]⟩]⟩ w R := by
 refine enter Tryd.func50 rfl Tryd.ntmps50 rfl hS fun a w hS => ?_
 have hM := hm; clear hm
 rw [deflate_writer_part_1279.m] at hM
 refine wp_seq <| wp_region_list <| bx ([.slice A860 w_852.literals_.lengths_.length c861, .slice A864 w_852.literals_.codes_.length c865]) hS rfl rfl rfl fun w b878 f879 hB880 hS => bx ([.int .i64 p877.symbol_, .int .i64 p877.bits_, .int .u32 p877.more_]) hS rfl rfl rfl fun w b881 f882 hB883 hS => wpList_nil <| then_n <| wp_seq <| wp_region_list <| st1 hS (mv rfl) rfl fun a w hS => st1 hS (ldbA 1 rfl hB880 rfl ([.slice A860 w_852.literals_.lengths_.length c861, .slice A864 w_852.literals_.codes_.length c865]) rfl rfl Tryd.isAgg47 Tryd.sizeOf47) rfl fun a w hS => st1 hS (fad rfl Tryd.runUnderlying68 rfl Tryd.sizeOf3 rfl) rfl fun a w hS => st1 hS (ldb 0 rfl hB883 rfl rfl Tryd.isAgg3) rfl fun a w hS => s_call hS rfl Tryd.call41 (deflate_writer_symbol_1279_c hG K w_852 w_852.literals_ p877.symbol_ b853 f854 A856 c857 f858 A860 c861 f862 A864 c865 f866 A868 c869 f870 A872 c873 f874 hB855 hV859 hV863 hV867 hV871 hV875 (hS.st.part 6 [2, 3, 4, 5, 6, 7, 0, 1] (by kernel_rfl)) (wp_bind hM) (fun at_884 A885 c886 bytes887 f888 f889 w hM h890 h891 hst => s_back hS.ev hst.appF rfl fun hS => ?_))
 replace hS : Ss _ _ _ H [f889, f888, f862, f866, f870, f874, f882, f879] F _ _ := hS
 refine wpList_nil <| then_n <| draw_begin (vals := [some (ptr b853 0), some (ptr b853 0), some (ptr b853 0), some (ptr b881 2), some (.int .u32 p877.more_), some (ptr b881 1), some (.int .i64 p877.bits_), none]) hS mixed rfl ?_
 intro l w ho hcl hA hst
 refine phq hA hst ho hcl navail nmust 7 [0, 1, 2, 3, 4, 5, 6] rfl rfl rfl rfl rfl (by exact ⟨nR rfl rfl rfl rfl rfl (by exact ovE (mv rfl) rfl), nR rfl rfl rfl rfl rfl (by exact ovE (nck rfl) rfl), nR rfl rfl rfl rfl rfl (by exact ovE (fad rfl Tryd.runUnderlying49 rfl Tryd.sizeOf44 rfl) rfl), nR rfl rfl rfl rfl rfl (by exact ovE (fad rfl Tryd.runUnderlying68 rfl Tryd.sizeOf53 rfl) rfl), nR rfl rfl rfl rfl rfl (by exact ovE (ldb 6 rfl hB883 rfl rfl Tryd.isAgg53) rfl), nR rfl rfl rfl rfl rfl (by exact ovE (fad rfl Tryd.runUnderlying68 rfl Tryd.sizeOf3 rfl) rfl), nR rfl rfl rfl rfl rfl (by exact ovE (ldb 6 rfl hB883 rfl rfl Tryd.isAgg3) rfl), trivial⟩) fun D l a w ho hcl hav hpre hm hE hk hA hst => ?_
 have hS := (Ss.mk hE hst).env2 (e' := [(13, ptr b853 0), (15, .int .u32 p877.more_), (17, .int .i64 p877.bits_)]) ⟨rfl, rfl, rfl, trivial⟩
 refine op_of_nth rfl <| s_call hS rfl Tryd.call23 (bits_Writer_Put_deflate_writer_c hG K (T_deflate_writer.mk (T_bits_Writer.mk (T_bits_place.mk at_884) bytes887) w_852.literals_ w_852.distances_) p877.more_ p877.bits_ b853 f889 A885 c886 f888 A860 c861 f862 A864 c865 f866 A868 c869 f870 A872 c873 f874 h891 h890 hV863 hV867 hV871 hV875 (hS.st.part 6 [0, 1, 2, 3, 4, 5, 6, 7] (by kernel_rfl)) (wp_bind hM) (fun x892 at_893 A894 c895 bytes896 f897 f898 w hM h899 h900 hst => s_back hS.ev hst.appF rfl fun hS => ?_))
 replace hS : Ss _ _ _ H [f898, f897, f862, f866, f870, f874, f882, f879] F _ _ := hS
 refine wpList_nil (then_n ?_)
 replace hst := hS.st
 obtain ⟨hcl, hmust, hav2, hA⟩ := dn (vals' := [some (ptr b853 0), some (ptr b853 0), some (ptr b853 0), some (ptr b881 2), some (.int .u32 p877.more_), some (ptr b881 1), some (.int .i64 p877.bits_), some (.int .i64 x892)]) 7 [(2, 7), (4, 7), (6, 7), (1, 2), (3, 4), (5, 6), (0, 1)] hA hcl hav hm hpre hk rfl rfl rfl rfl rfl rfl rfl
 clear hm hav
 refine phqE hA hst ho hcl hmust [] rfl rfl rfl trivial fun a w hS => ?_
 replace hS := hS.env2 (e' := []) trivial
 exact s_end (rs := []) hS rfl rfl (hret at_893 A894 c895 bytes896 f897 f898 w (wp_ok hM) h899 h900 (hS.st.pick [0, 1, 2, 3, 4, 5] (by kernel_rfl)))

theorem deflate_distance_c {H : Imm} {F : List Frag} {w : World} {R : Ending → World → Prop} {kr : (Int × Int × Int) → Prop} {kp : Value → Prop} (hG : Gl H) (K : Nat) (n_917 : Int)
    (hS : St w H [] F) (hm : (deflate_distance.m K n_917).wp kr kp)
    (hret : ∀ (symbol926 : Int) (bits927 : Int) (more928 : Int) (w : World), kr (symbol926, bits927, more928) → St w H [] F → R (.returned (.agg ⟨[.int .i64 symbol926, .int .i64 bits927, .int .u32 more928]⟩)) w) :
    Calls Tryd.prog 36 ⟨[.int .i64 n_917]⟩ w R := by
 refine enter Tryd.func36 rfl Tryd.ntmps36 rfl hS fun a w hS => ?_
 have hM := hm; clear hm
 rw [deflate_distance.m] at hM
 refine wp_seq <| wp_region_list <| alc ([.int .i64 (0 : Int), .int .i64 (0 : Int), .int .u32 (0 : Int)]) hS Tryd.zeroValue68 rfl rfl fun w b918 f919 hB920 hS => wpList_nil <| then_n <| wp_seq <| wp_region_list <| st1 hS (mv rfl) rfl fun a w hS => st1 hS (bin rfl rfl rfl) rfl fun a w hS => s_call hS rfl Tryd.call52 (deflate_scaled_c hG K (w64 (n_917 - (1 : Int))) (1 : Int) (hS.st.part 0 [0] (by kernel_rfl)) (wp_bind hM) (fun symbol921 bits922 more923 w hM  hst => s_back hS.ev hst.appF rfl fun hS => ?_))
 replace hS : Ss _ _ _ H [f919] F _ _ := hS
 refine stB 0 ([.int .i64 symbol921, .int .i64 bits922, .int .u32 more923]) ([.int .i64 symbol921, .int .i64 bits922, .int .u32 more923]) hS rfl rfl hB920 rfl rfl Tryd.sizeOf68 (by simp [Value.oneCell']) (Nat.le_of_ble_eq_true rfl) rfl fun w f924 hB925 hS => wpList_nil <| then_n <| wp_ret ?_
 exact s_retC (vs := [.agg ⟨[.int .i64 symbol921, .int .i64 bits922, .int .u32 more923]⟩]) hS rfl (by exact ⟨rvA 0 ([.int .i64 symbol921, .int .i64 bits922, .int .u32 more923]) rfl hB925 rfl rfl rfl Tryd.isAgg68 Tryd.sizeOf68, trivial⟩) (hret symbol921 bits922 more923 w (wp_ok hM) (hS.st.pick [] (by kernel_rfl)))

theorem deflate_writer_symbol_7ef6_c {H : Imm} {F : List Frag} {w : World} {R : Ending → World → Prop} {kr : (Int × (List Int)) → Prop} {kp : Value → Prop} (hG : Gl H) (K : Nat) (w_964 : T_deflate_writer) (c_988 : T_deflate_code) (s989 : Int) (b965 : Nat) (f966 : Frag) (A968 : Option Addr) (c969 : Nat) (f970 : Frag) (A972 : Option Addr) (c973 : Nat) (f974 : Frag) (A976 : Option Addr) (c977 : Nat) (f978 : Frag) (A980 : Option Addr) (c981 : Nat) (f982 : Frag) (A984 : Option Addr) (c985 : Nat) (f986 : Frag) (hB967 : Blk f966 b965 ([.int .i64 w_964.Writer_.place_.at_, .slice A968 w_964.Writer_.bytes_.length c969, .slice A972 w_964.literals_.lengths_.length c973, .slice A976 w_964.literals_.codes_.length c977, .slice A980 w_964.distances_.lengths_.length c981, .slice A984 w_964.distances_.codes_.length c985]) 49) (hV971 : Vec 5 (ci .u8) 1 A968 w_964.Writer_.bytes_ c969 f970) (hV975 : Vec 3 (ci .i64) 1 A972 w_964.literals_.lengths_ c973 f974) (hV979 : Vec 3 (ci .i64) 1 A976 w_964.literals_.codes_ c977 f978) (hV983 : Vec 3 (ci .i64) 1 A980 w_964.distances_.lengths_ c981 f982) (hV987 : Vec 3 (ci .i64) 1 A984 w_964.distances_.codes_ c985 f986)
    (hS : St w H [f966, f970, f974, f978, f982, f986] F) (hm : (deflate_writer_symbol_7ef6.m K w_964 c_988 s989).wp kr kp)
    (hret : ∀ (at_1047 : Int) (A1048 : Option Addr) (c1049 : Nat) (bytes1050 : (List Int)) (f1051 : Frag) (f1053 : Frag) (w : World), kr (at_1047, bytes1050) → (Vec 5 (ci .u8) 1 A1048 bytes1050 c1049 f1051) → (Blk f1053 b965 ([.int .i64 at_1047, .slice A1048 bytes1050.length c1049, .slice A972 w_964.literals_.lengths_.length c973, .slice A976 w_964.literals_.codes_.length c977, .slice A980 w_964.distances_.lengths_.length c981, .slice A984 w_964.distances_.codes_.length c985]) 49) → St w H [f1053, f1051, f974, f978, f982, f986] F → R (.returned (.tuple ⟨[]⟩)) w) :
    Calls Tryd.prog 41 ⟨[ptr b965 0, .agg ⟨[.slice A980 w_964.distances_.lengths_.length c981, .slice A984 w_964.distances_.codes_.length c985]⟩, .int .i64 s989]⟩ w R := by
 refine enter Tryd.func41 rfl Tryd.ntmps41 rfl hS fun a w hS => ?_
 have hM := hm; clear hm
 rw [deflate_writer_symbol_7ef6.m] at hM
 refine wp_seq <| wp_region_list <| bx ([.slice A980 w_964.distances_.lengths_.length c981, .slice A984 w_964.distances_.codes_.length c985]) hS rfl rfl rfl fun w b990 f991 hB992 hS => wpList_nil <| then_n <| wp_seq <| wp_region_list <| st1 hS (fad rfl Tryd.runUnderlying47 rfl Tryd.sizeOf45 rfl) rfl fun a w hS => st1 hS (ldb 0 rfl hB992 rfl rfl Tryd.isAgg45) rfl fun a w hS => st1 hS (mv rfl) rfl fun a w hS => ?_
 obtain ⟨hk993, hM⟩ := wp_chk hM
 refine st1 hS (ixV rfl rfl Tryd.runUnderlying45 Tryd.sizeOf3 (hV983.rd (i := 5) rfl) (fun _ => rfl) rfl hk993) rfl fun a w hS => st1 hS (ldV0 rfl (hV983.rd (i := 5) rfl) (fun _ => rfl) hk993 rfl Tryd.isAgg3) rfl fun a w hS => st1 hS (bin rfl rfl rfl) rfl fun a w hS => st1x (v := Value.int .i64) (x0 := (w64 ((rd w_964.distances_.lengths_ s989) - (1 : Int)))) hS (asg rfl) rfl fun i994 a w hz hS => ?_
 have hM := lt_to hz hM; clear hz
 refine wpList_nil <| then_n <| wp_block <| s_loopJ (fun k1030 a w => ∃ (at_1021 : Int) (A1022 : Option Addr) (c1023 : Nat) (bytes1024 : (List Int)) (f1025 : Frag) (f1027 : Frag) (i1029 : Int), Ss 30 [] [(0, ptr b965 0), (2, .int .i64 s989), (4, ptr b990 0), (6, .int .i64 i1029)] H [f1027, f1025, f974, f978, f982, f986, f991] F a w ∧ (Vec 5 (ci .u8) 1 A1022 bytes1024 c1023 f1025) ∧ (Blk f1027 b965 ([.int .i64 at_1021, .slice A1022 bytes1024.length c1023, .slice A972 w_964.literals_.lengths_.length c973, .slice A976 w_964.literals_.codes_.length c977, .slice A980 w_964.distances_.lengths_.length c981, .slice A984 w_964.distances_.codes_.length c985]) 49) ∧ (deflate_writer_symbol_7ef6.l1 K w_964 s989 k1030 at_1021 bytes1024 i1029).wp kr kp) K ?_ ?_ ?_
 ·exact ⟨w_964.Writer_.place_.at_, A968, c969, w_964.Writer_.bytes_, f970, f966, i994, hS.to [1, 2, 3, 4, 5, 6, 0] (by kernel_rfl) ⟨rfl, rfl, rfl, rfl, trivial⟩, hV971, hB967, hM⟩
 ·intro a w hI; obtain ⟨_, _, _, _, _, _, _, _, _, _, hM⟩ := hI; exact wp_fail hM
 ·intro k1030 a w hI J1046 hJ1046
  obtain ⟨at_1021, A1022, c1023, bytes1024, f1025, f1027, i1029, hS, hV1026, hB1028, hM⟩ := hI
  rw [deflate_writer_symbol_7ef6.l1] at hM
  refine wp_seq <| wp_seq <| wp_region_list <| st1 hS (mv rfl) rfl fun a w hS => st1 hS (bin rfl rfl rfl) rfl fun a w hS => wpList_nil <| then_n <| s_cond hS rfl hM (fun hb1031 hM => ?_) (fun hb1031 hM => ?_)
  ·refine wp_skip ?_
   refine then_n <| wp_seq <| wp_block ?_
   obtain ⟨hk1033, hM⟩ := wp_chk hM
   obtain ⟨hk1035, hM⟩ := wp_chk hM
   refine draw_begin (vals := [some (ptr b965 0), some (ptr b965 0), some (ptr b965 0), some (ptr b990 1), some (.slice A984 w_964.distances_.codes_.length c985), some (.int .i64 s989), some (slp A984 (Int.toNat s989 * 1)), some (.int .i64 (rd w_964.distances_.codes_ s989)), some (.int .i64 i1029), some (.int .i64 (ishr .i64 (rd w_964.distances_.codes_ s989) i1029)), some (.int .i64 (iand .i64 (ishr .i64 (rd w_964.distances_.codes_ s989) i1029) (1 : Int))), some (.int .u32 (wr .u32 (iand .i64 (ishr .i64 (rd w_964.distances_.codes_ s989) i1029) (1 : Int)))), none]) hS mixed rfl ?_
   intro l w ho hcl hA hst
   refine phq hA hst ho hcl navail nmust 12 [0, 1, 2, 3, 4, 5, 6, 7, 8, 9, 10, 11] rfl rfl rfl rfl rfl (by exact ⟨nR rfl rfl rfl rfl rfl (by exact ovE (mv rfl) rfl), nR rfl rfl rfl rfl rfl (by exact ovE (nck rfl) rfl), nR rfl rfl rfl rfl rfl (by exact ovE (fad rfl Tryd.runUnderlying49 rfl Tryd.sizeOf44 rfl) rfl), nR rfl rfl rfl rfl rfl (by exact ovE (fad rfl Tryd.runUnderlying47 rfl Tryd.sizeOf45 rfl) rfl), nR rfl rfl rfl rfl rfl (by exact ovE (ldb 6 rfl hB992 rfl rfl Tryd.isAgg45) rfl), nR rfl rfl rfl rfl rfl (by exact ovE (mv rfl) rfl), nR rfl rfl rfl rfl rfl (by exact ovE (ixV rfl rfl Tryd.runUnderlying45 Tryd.sizeOf3 (hV987.rd (i := 5) rfl) (fun _ => rfl) rfl hk1033) rfl), nR rfl rfl rfl rfl rfl (by exact ovE (ldV0 rfl (hV987.rd (i := 5) rfl) (fun _ => rfl) hk1033 rfl Tryd.isAgg3) rfl), nR rfl rfl rfl rfl rfl (by exact ovE (mv rfl) rfl), nR rfl rfl rfl rfl rfl (by exact ovE (shr rfl rfl hk1035) rfl), nR rfl rfl rfl rfl rfl (by exact ovE (bin rfl rfl rfl) rfl), nR rfl rfl rfl rfl rfl (by exact ovE (cvi rfl Tryd.runUnderlying3 Tryd.runUnderlying53) rfl), trivial⟩) fun D l a w ho hcl hav hpre hm hE hk hA hst => ?_
   have hS := (Ss.mk hE hst).env2 (e' := [(19, ptr b965 0), (28, .int .u32 (wr .u32 (iand .i64 (ishr .i64 (rd w_964.distances_.codes_ s989) i1029) (1 : Int))))]) ⟨rfl, rfl, trivial⟩
   refine op_of_nth rfl <| s_call hS rfl Tryd.call23 (bits_Writer_Put_deflate_writer_c hG K (T_deflate_writer.mk (T_bits_Writer.mk (T_bits_place.mk at_1021) bytes1024) w_964.literals_ w_964.distances_) (wr .u32 (iand .i64 (ishr .i64 (rd w_964.distances_.codes_ s989) i1029) (1 : Int))) (1 : Int) b965 f1027 A1022 c1023 f1025 A972 c973 f974 A976 c977 f978 A980 c981 f982 A984 c985 f986 hB1028 hV1026 hV975 hV979 hV983 hV987 (hS.st.part 6 [0, 1, 2, 3, 4, 5, 6] (by kernel_rfl)) (wp_bind hM) (fun x1036 at_1037 A1038 c1039 bytes1040 f1041 f1042 w hM h1043 h1044 hst => s_back hS.ev hst.appF rfl fun hS => ?_))
   replace hS : Ss _ _ _ H [f1042, f1041, f974, f978, f982, f986, f991] F _ _ := hS
   refine wpList_nil (then_n ?_)
   replace hst := hS.st
   obtain ⟨hcl, hmust, hav2, hA⟩ := dn (vals' := [some (ptr b965 0), some (ptr b965 0), some (ptr b965 0), some (ptr b990 1), some (.slice A984 w_964.distances_.codes_.length c985), some (.int .i64 s989), some (slp A984 (Int.toNat s989 * 1)), some (.int .i64 (rd w_964.distances_.codes_ s989)), some (.int .i64 i1029), some (.int .i64 (ishr .i64 (rd w_964.distances_.codes_ s989) i1029)), some (.int .i64 (iand .i64 (ishr .i64 (rd w_964.distances_.codes_ s989) i1029) (1 : Int))), some (.int .u32 (wr .u32 (iand .i64 (ishr .i64 (rd w_964.distances_.codes_ s989) i1029) (1 : Int)))), some (.int .i64 x1036)]) 12 [(2, 12), (11, 12), (1, 2), (10, 11), (0, 1), (9, 10), (7, 9), (8, 9), (6, 7), (4, 6), (5, 6), (3, 4)] hA hcl hav hm hpre hk rfl rfl rfl rfl rfl rfl rfl
   clear hm hav
   refine phqE hA hst ho hcl hmust [] rfl rfl rfl trivial fun a w hS => ?_
   replace hS := hS.env2 (e' := [(0, ptr b965 0), (2, .int .i64 s989), (4, ptr b990 0), (6, .int .i64 i1029)]) ⟨rfl, rfl, rfl, rfl, trivial⟩
   refine blk_n (then_n ?_)
   refine wp_region_list <| st1 hS (mv rfl) rfl fun a w hS => st1 hS (bin rfl rfl rfl) rfl fun a w hS => st1x (v := Value.int .i64) (x0 := (w64 (i1029 - (1 : Int)))) hS (asg rfl) rfl fun i1045 a w hz hS => ?_
   have hM := lt_to hz hM; clear hz
   refine wpList_nil <| then_n ?_
   exact hJ1046 _ _ ⟨at_1037, A1038, c1039, bytes1040, f1041, f1042, i1045, hS.to [0, 1, 2, 3, 4, 5, 6] (by kernel_rfl) ⟨rfl, rfl, rfl, rfl, trivial⟩, h1043, h1044, hM⟩
  ·refine wp_exit ?_
   refine then_ex (then_ex (blk_same ?_))
   exact s_end (rs := []) hS rfl rfl (hret at_1021 A1022 c1023 bytes1024 f1025 f1027 w (wp_ok hM) hV1026 hB1028 (hS.st.pick [0, 1, 2, 3, 4, 5] (by kernel_rfl)))

theorem deflate_writer_part_7ef6_c {H : Imm} {F : List Frag} {w : World} {R : Ending → World → Prop} {kr : (Int × (List Int)) → Prop} {kp : Value → Prop} (hG : Gl H) (K : Nat) (w_932 : T_deflate_writer) (c_956 : T_deflate_code) (p957 : T_deflate_part) (b933 : Nat) (f934 : Frag) (A936 : Option Addr) (c937 : Nat) (f938 : Frag) (A940 : Option Addr) (c941 : Nat) (f942 : Frag) (A944 : Option Addr) (c945 : Nat) (f946 : Frag) (A948 : Option Addr) (c949 : Nat) (f950 : Frag) (A952 : Option Addr) (c953 : Nat) (f954 : Frag) (hB935 : Blk f934 b933 ([.int .i64 w_932.Writer_.place_.at_, .slice A936 w_932.Writer_.bytes_.length c937, .slice A940 w_932.literals_.lengths_.length c941, .slice A944 w_932.literals_.codes_.length c945, .slice A948 w_932.distances_.lengths_.length c949, .slice A952 w_932.distances_.codes_.length c953]) 49) (hV939 : Vec 5 (ci .u8) 1 A936 w_932.Writer_.bytes_ c937 f938) (hV943 : Vec 3 (ci .i64) 1 A940 w_932.literals_.lengths_ c941 f942) (hV947 : Vec 3 (ci .i64) 1 A944 w_932.literals_.codes_ c945 f946) (hV951 : Vec 3 (ci .i64) 1 A948 w_932.distances_.lengths_ c949 f950) (hV955 : Vec 3 (ci .i64) 1 A952 w_932.distances_.codes_ c953 f954)
    (hS : St w H [f934, f938, f942, f946, f950, f954] F) (hm : (deflate_writer_part_7ef6.m K w_932 c_956 p957).wp kr kp)
    (hret : ∀ (at_1072 : Int) (A1073 : Option Addr) (c1074 : Nat) (bytes1075 : (List Int)) (f1076 : Frag) (f1078 : Frag) (w : World), kr (at_1072, bytes1075) → (Vec 5 (ci .u8) 1 A1073 bytes1075 c1074 f1076) → (Blk f1078 b933 ([.int .i64 at_1072, .slice A1073 bytes1075.length c1074, .slice A940 w_932.literals_.lengths_.length c941, .slice A944 w_932.literals_.codes_.length c945, .slice A948 w_932.distances_.lengths_.length c949, .slice A952 w_932.distances_.codes_.length c953]) 49) → St w H [f1078, f1076, f942, f946, f950, f954] F → R (.returned (.tuple ⟨[]⟩)) w) :
    Calls Tryd.prog 50 ⟨[ptr b933 0, .agg ⟨[.slice A948 w_932.distances_.lengths_.length c949, .slice A952 w_932.distances_.codes_.length c953]⟩, .agg ⟨[.int .i64 p957.symbol_, .int .i64 p957.bits_, .int .u32 p957.more_]⟩]⟩ w R := by
 refine enter Tryd.func50 rfl Tryd.ntmps50 rfl hS fun a w hS => ?_
 have hM := hm; clear hm
 rw [deflate_writer_part_7ef6.m] at hM
 refine wp_seq <| wp_region_list <| bx ([.slice A948 w_932.distances_.lengths_.length c949, .slice A952 w_932.distances_.codes_.length c953]) hS rfl rfl rfl fun w b958 f959 hB960 hS => bx ([.int .i64 p957.symbol_, .int .i64 p957.bits_, .int .u32 p957.more_]) hS rfl rfl rfl fun w b961 f962 hB963 hS => wpList_nil <| then_n <| wp_seq <| wp_region_list <| st1 hS (mv rfl) rfl fun a w hS => st1 hS (ldbA 1 rfl hB960 rfl ([.slice A948 w_932.distances_.lengths_.length c949, .slice A952 w_932.distances_.codes_.length c953]) rfl rfl Tryd.isAgg47 Tryd.sizeOf47) rfl fun a w hS => st1 hS (fad rfl Tryd.runUnderlying68 rfl Tryd.sizeOf3 rfl) rfl fun a w hS => st1 hS (ldb 0 rfl hB963 rfl rfl Tryd.isAgg3) rfl fun a w hS => s_call hS rfl Tryd.call41 (deflate_writer_symbol_7ef6_c hG K w_932 w_932.distances_ p957.symbol_ b933 f934 A936 c937 f938 A940 c941 f942 A944 c945 f946 A948 c949 f950 A952 c953 f954 hB935 hV939 hV943 hV947 hV951 hV955 (hS.st.part 6 [2, 3, 4, 5, 6, 7, 0, 1] (by kernel_rfl)) (wp_bind hM) (fun at_1055 A1056 c1057 bytes1058 f1059 f1060 w hM h1061 h1062 hst => s_back hS.ev hst.appF rfl fun hS => ?_))
 replace hS : Ss _ _ _ H [f1060, f1059, f942, f946, f950, f954, f962, f959] F _ _ := hS
 refine wpList_nil <| then_n <| draw_begin (vals := [some (ptr b933 0), some (ptr b933 0), some (ptr b933 0), some (ptr b961 2), some (.int .u32 p957.more_), some (ptr b961 1), some (.int .i64 p957.bits_), none]) hS mixed rfl ?_
 intro l w ho hcl hA hst
 refine phq hA hst ho hcl navail nmust 7 [0, 1, 2, 3, 4, 5, 6] rfl rfl rfl rfl rfl (by exact ⟨nR rfl rfl rfl rfl rfl (by exact ovE (mv rfl) rfl), nR rfl rfl rfl rfl rfl (by exact ovE (nck rfl) rfl), nR rfl rfl rfl rfl rfl (by exact ovE (fad rfl Tryd.runUnderlying49 rfl Tryd.sizeOf44 rfl) rfl), nR rfl rfl rfl rfl rfl (by exact ovE (fad rfl Tryd.runUnderlying68 rfl Tryd.sizeOf53 rfl) rfl), nR rfl rfl rfl rfl rfl (by exact ovE (ldb 6 rfl hB963 rfl rfl Tryd.isAgg53) rfl), nR rfl rfl rfl rfl rfl (by exact ovE (fad rfl Tryd.runUnderlying68 rfl Tryd.sizeOf3 rfl) rfl), nR rfl rfl rfl rfl rfl (by exact ovE (ldb 6 rfl hB963 rfl rfl Tryd.isAgg3) rfl), trivial⟩) fun D l a w ho hcl hav hpre hm hE hk hA hst => ?_
 have hS := (Ss.mk hE hst).env2 (e' := [(13, ptr b933 0), (15, .int .u32 p957.more_), (17, .int .i64 p957.bits_)]) ⟨rfl, rfl, rfl, trivial⟩
 refine op_of_nth rfl <| s_call hS rfl Tryd.call23 (bits_Writer_Put_deflate_writer_c hG K (T_deflate_writer.mk (T_bits_Writer.mk (T_bits_place.mk at_1055) bytes1058) w_932.literals_ w_932.distances_) p957.more_ p957.bits_ b933 f1060 A1056 c1057 f1059 A940 c941 f942 A944 c945 f946 A948 c949 f950 A952 c953 f954 h1062 h1061 hV943 hV947 hV951 hV955 (hS.st.part 6 [0, 1, 2, 3, 4, 5, 6, 7] (by kernel_rfl)) (wp_bind hM) (fun x1063 at_1064 A1065 c1066 bytes1067 f1068 f1069 w hM h1070 h1071 hst => s_back hS.ev hst.appF rfl fun hS => ?_))
 replace hS : Ss _ _ _ H [f1069, f1068, f942, f946, f950, f954, f962, f959] F _ _ := hS
 refine wpList_nil (then_n ?_)
 replace hst := hS.st
 obtain ⟨hcl, hmust, hav2, hA⟩ := dn (vals' := [some (ptr b933 0), some (ptr b933 0), some (ptr b933 0), some (ptr b961 2), some (.int .u32 p957.more_), some (ptr b961 1), some (.int .i64 p957.bits_), some (.int .i64 x1063)]) 7 [(2, 7), (4, 7), (6, 7), (1, 2), (3, 4), (5, 6), (0, 1)] hA hcl hav hm hpre hk rfl rfl rfl rfl rfl rfl rfl
 clear hm hav
 refine phqE hA hst ho hcl hmust [] rfl rfl rfl trivial fun a w hS => ?_
 replace hS := hS.env2 (e' := []) trivial
 exact s_end (rs := []) hS rfl rfl (hret at_1064 A1065 c1066 bytes1067 f1068 f1069 w (wp_ok hM) h1070 h1071 (hS.st.pick [0, 1, 2, 3, 4, 5] (by kernel_rfl)))

theorem deflate_writer_tokens_c {H : Imm} {F : List Frag} {w : World} {R : Ending → World → Prop} {kr : (Int × (List Int)) → Prop} {kp : Value → Prop} (hG : Gl H) (K : Nat) (w_664 : T_deflate_writer) (l_688 : List T_api_Token) (b665 : Nat) (f666 : Frag) (A668 : Option Addr) (c669 : Nat) (f670 : Frag) (A672 : Option Addr) (c673 : Nat) (f674 : Frag) (A676 : Option Addr) (c677 : Nat) (f678 : Frag) (A680 : Option Addr) (c681 : Nat) (f682 : Frag) (A684 : Option Addr) (c685 : Nat) (f686 : Frag) (A689 : Option Addr) (c690 : Nat) (hB667 : Blk f666 b665 ([.int .i64 w_664.Writer_.place_.at_, .slice A668 w_664.Writer_.bytes_.length c669, .slice A672 w_664.literals_.lengths_.length c673, .slice A676 w_664.literals_.codes_.length c677, .slice A680 w_664.distances_.lengths_.length c681, .slice A684 w_664.distances_.codes_.length c685]) 49) (hV671 : Vec 5 (ci .u8) 1 A668 w_664.Writer_.bytes_ c669 f670) (hV675 : Vec 3 (ci .i64) 1 A672 w_664.literals_.lengths_ c673 f674) (hV679 : Vec 3 (ci .i64) 1 A676 w_664.literals_.codes_ c677 f678) (hV683 : Vec 3 (ci .i64) 1 A680 w_664.distances_.lengths_ c681 f682) (hV687 : Vec 3 (ci .i64) 1 A684 w_664.distances_.codes_ c685 f686) (hr691 : Rdl H [] F T_api_Token.cells A689 l_688) (hc692 : l_688.length ≤ c690)
    (hS : St w H [f666, f670, f674, f678, f682, f686] F) (hm : (deflate_writer_tokens.m K w_664 l_688).wp kr kp)
    (hret : ∀ (at_1163 : Int) (A1164 : Option Addr) (c1165 : Nat) (bytes1166 : (List Int)) (f1167 : Frag) (f1169 : Frag) (w : World), kr (at_1163, bytes1166) → (Vec 5 (ci .u8) 1 A1164 bytes1166 c1165 f1167) → (Blk f1169 b665 ([.int .i64 at_1163, .slice A1164 bytes1166.length c1165, .slice A672 w_664.literals_.lengths_.length c673, .slice A676 w_664.literals_.codes_.length c677, .slice A680 w_664.distances_.lengths_.length c681, .slice A684 w_664.distances_.codes_.length c685]) 49) → St w H [f1169, f1167, f674, f678, f682, f686] F → R (.returned (.tuple ⟨[]⟩)) w) :
    Calls Tryd.prog 24 ⟨[ptr b665 0, .slice A689 l_688.length c690]⟩ w R := by
 refine enter Tryd.func24 rfl Tryd.ntmps24 rfl hS fun a w hS => ?_
 have hM := hm; clear hm
 rw [deflate_writer_tokens.m] at hM
 refine seq_joinJ (fun a w => ∃ (at_1146 : Int) (A1147 : Option Addr) (c1148 : Nat) (bytes1149 : (List Int)) (f1150 : Frag) (f1152 : Frag), Ss 49 [] [(0, ptr b665 0)] H [f1152, f1150, f674, f678, f682, f686] F a w ∧ (Vec 5 (ci .u8) 1 A1147 bytes1149 c1148 f1150) ∧ (Blk f1152 b665 ([.int .i64 at_1146, .slice A1147 bytes1149.length c1148, .slice A672 w_664.literals_.lengths_.length c673, .slice A676 w_664.literals_.codes_.length c677, .slice A680 w_664.distances_.lengths_.length c681, .slice A684 w_664.distances_.codes_.length c685]) 49) ∧ (deflate_writer_tokens.j2 K w_664 at_1146 bytes1149).wp kr kp) (fun J1154 hJ1154 => ?_) ?_
 ·refine wp_seq ?_
  refine wp_region_list <| st1 hS (mv rfl) rfl fun a w hS => st1 hS (lenV rfl Tryd.runUnderlying25) rfl fun a w hS => st1 hS (mv rfl) rfl fun a w hS => wpList_nil <| then_n <| wp_block <| s_loopJ (fun k1106 a w => ∃ (at_1097 : Int) (A1098 : Option Addr) (c1099 : Nat) (bytes1100 : (List Int)) (f1101 : Frag) (f1103 : Frag) (v1105 : Int), Ss 49 [] [(0, ptr b665 0), (6, .slice A689 l_688.length c690), (7, .int .i64 (l_688.length : Int)), (8, .int .i64 v1105)] H [f1103, f1101, f674, f678, f682, f686] F a w ∧ (Vec 5 (ci .u8) 1 A1098 bytes1100 c1099 f1101) ∧ (Blk f1103 b665 ([.int .i64 at_1097, .slice A1098 bytes1100.length c1099, .slice A672 w_664.literals_.lengths_.length c673, .slice A676 w_664.literals_.codes_.length c677, .slice A680 w_664.distances_.lengths_.length c681, .slice A684 w_664.distances_.codes_.length c685]) 49) ∧ (deflate_writer_tokens.l1 K w_664 l_688 k1106 at_1097 bytes1100 v1105).wp kr kp) K ?_ ?_ ?_
  ·exact ⟨w_664.Writer_.place_.at_, A668, c669, w_664.Writer_.bytes_, f670, f666, (0 : Int), hS.to [0, 1, 2, 3, 4, 5] (by kernel_rfl) ⟨rfl, rfl, rfl, rfl, trivial⟩, hV671, hB667, hM⟩
  ·intro a w hI; obtain ⟨_, _, _, _, _, _, _, _, _, _, hM⟩ := hI; exact wp_fail hM
  ·intro k1106 a w hI J1145 hJ1145
   obtain ⟨at_1097, A1098, c1099, bytes1100, f1101, f1103, v1105, hS, hV1102, hB1104, hM⟩ := hI
   rw [deflate_writer_tokens.l1] at hM
   refine wp_seq <| wp_region_list <| st1 hS (bin rfl rfl rfl) rfl fun a w hS => wpList_nil <| then_n <| wp_seq <| s_cond hS rfl hM (fun hb1107 hM => ?_) (fun hb1107 hM => ?_)
   ·refine wp_skip ?_
    refine then_n <| wp_seq <| wp_block <| wp_seq <| wp_region_list ?_
    obtain ⟨hk1108, hM⟩ := wp_chk hM
    refine st1 hS (ixV rfl rfl Tryd.runUnderlying25 Tryd.sizeOf32 hr691.wk (fun _ => rfl) rfl hk1108) rfl fun a w hS => st1 hS (ldVA rfl hr691.wk (fun _ => rfl) hk1108 Tryd.isAgg32 Tryd.sizeOf32 rfl) rfl fun a w hS => alc ([.int .u8 (0 : Int), .int .i64 (0 : Int), .int .i64 (0 : Int)]) hS Tryd.zeroValue32 rfl rfl fun w b1109 f1110 hB1111 hS => stB 0 ([.int .u8 ((rd l_688 v1105).Lit_), .int .i64 ((rd l_688 v1105).Len_), .int .i64 ((rd l_688 v1105).Dist_)]) ([.int .u8 ((rd l_688 v1105).Lit_), .int .i64 ((rd l_688 v1105).Len_), .int .i64 ((rd l_688 v1105).Dist_)]) hS rfl rfl hB1111 rfl rfl Tryd.sizeOf32 (by simp [Value.oneCell']) (Nat.le_of_ble_eq_true rfl) rfl fun w f1112 hB1113 hS => wpList_nil <| then_n <| wp_seq <| wp_seq <| wp_region_list <| st1 hS (fad rfl Tryd.runUnderlying32 rfl Tryd.sizeOf3 rfl) rfl fun a w hS => st1 hS (ldb 0 rfl hB1113 rfl rfl Tryd.isAgg3) rfl fun a w hS => st1 hS (bin rfl rfl rfl) rfl fun a w hS => wpList_nil <| then_n <| s_cond hS rfl hM (fun hb1114 hM => ?_) (fun hb1114 hM => ?_)
    ·refine wp_seq ?_
     refine draw_begin (vals := [some (ptr b665 0), some (ptr b665 0), some (ptr b665 0), some (ptr b665 2), some (.agg ⟨[.slice A672 w_664.literals_.lengths_.length c673, .slice A676 w_664.literals_.codes_.length c677]⟩), some (ptr b1109 0), some (.int .u8 ((rd l_688 v1105).Lit_)), some (.int .i64 (wr .i64 (rd l_688 v1105).Lit_)), none]) hS mixed rfl ?_
     intro l w ho hcl hA hst
     refine phq hA hst ho hcl navail nmust 8 [0, 1, 2, 3, 4, 5, 6, 7] rfl rfl rfl rfl rfl (by exact ⟨nR rfl rfl rfl rfl rfl (by exact ovE (mv rfl) rfl), nR rfl rfl rfl rfl rfl (by exact ovE (mv rfl) rfl), nR rfl rfl rfl rfl rfl (by exact ovE (nck rfl) rfl), nR rfl rfl rfl rfl rfl (by exact ovE (fad rfl Tryd.runUnderlying49 rfl Tryd.sizeOf47 rfl) rfl), nR rfl rfl rfl rfl rfl (by exact ovE (ldbA 1 rfl hB1104 rfl ([.slice A672 w_664.literals_.lengths_.length c673, .slice A676 w_664.literals_.codes_.length c677]) rfl rfl Tryd.isAgg47 Tryd.sizeOf47) rfl), nR rfl rfl rfl rfl rfl (by exact ovE (fad rfl Tryd.runUnderlying32 rfl Tryd.sizeOf5 rfl) rfl), nR rfl rfl rfl rfl rfl (by exact ovE (ldb 0 rfl hB1113 rfl rfl Tryd.isAgg5) rfl), nR rfl rfl rfl rfl rfl (by exact ovE (cvi rfl Tryd.runUnderlying5 Tryd.runUnderlying3) rfl), trivial⟩) fun D l a w ho hcl hav hpre hm hE hk hA hst => ?_
     have hS := (Ss.mk hE hst).env2 (e' := [(15, ptr b665 0), (19, .agg ⟨[.slice A672 w_664.literals_.lengths_.length c673, .slice A676 w_664.literals_.codes_.length c677]⟩), (22, .int .i64 (wr .i64 (rd l_688 v1105).Lit_))]) ⟨rfl, rfl, rfl, trivial⟩
     refine op_of_nth rfl <| s_call hS rfl Tryd.call41 (deflate_writer_symbol_1279_c hG K (T_deflate_writer.mk (T_bits_Writer.mk (T_bits_place.mk at_1097) bytes1100) w_664.literals_ w_664.distances_) w_664.literals_ (wr .i64 (rd l_688 v1105).Lit_) b665 f1103 A1098 c1099 f1101 A672 c673 f674 A676 c677 f678 A680 c681 f682 A684 c685 f686 hB1104 hV1102 hV675 hV679 hV683 hV687 (hS.st.part 6 [1, 2, 3, 4, 5, 6, 0] (by kernel_rfl)) (wp_bind hM) (fun at_1115 A1116 c1117 bytes1118 f1119 f1120 w hM h1121 h1122 hst => s_back hS.ev hst.appF rfl fun hS => ?_))
     replace hS : Ss _ _ _ H [f1120, f1119, f674, f678, f682, f686, f1112] F _ _ := hS
     refine wpList_nil (then_n ?_)
     replace hst := hS.st
     obtain ⟨hcl, hmust, hav2, hA⟩ := dn (vals' := [some (ptr b665 0), some (ptr b665 0), some (ptr b665 0), some (ptr b665 2), some (.agg ⟨[.slice A672 w_664.literals_.lengths_.length c673, .slice A676 w_664.literals_.codes_.length c677]⟩), some (ptr b1109 0), some (.int .u8 ((rd l_688 v1105).Lit_)), some (.int .i64 (wr .i64 (rd l_688 v1105).Lit_)), some (.tuple ⟨[]⟩)]) 8 [(0, 8), (4, 8), (7, 8), (3, 4), (6, 7), (2, 3), (5, 6), (1, 2)] hA hcl hav hm hpre hk rfl rfl rfl rfl rfl rfl rfl
     clear hm hav
     refine phqE hA hst ho hcl hmust [] rfl rfl rfl trivial fun a w hS => ?_
     replace hS := hS.env2 (e' := [(0, ptr b665 0), (6, .slice A689 l_688.length c690), (7, .int .i64 (l_688.length : Int)), (8, .int .i64 v1105)]) ⟨rfl, rfl, rfl, rfl, trivial⟩
     refine then_n <| wp_exit <| then_ex (blk_same (then_n ?_))
     refine wp_region_list <| st1 hS (bin rfl rfl rfl) rfl fun a w hS => st1 hS (mv rfl) rfl fun a w hS => wpList_nil <| then_n ?_
     exact hJ1145 _ _ ⟨at_1115, A1116, c1117, bytes1118, f1119, f1120, (w64 (v1105 + (1 : Int))), hS.to [0, 1, 2, 3, 4, 5] (by kernel_rfl) ⟨rfl, rfl, rfl, rfl, trivial⟩, h1121, h1122, hM⟩
    ·refine wp_skip ?_
     refine then_n <| wp_seq <| draw_begin (vals := [some (ptr b665 0), some (ptr b665 0), some (ptr b665 0), some (ptr b665 2), some (.agg ⟨[.slice A672 w_664.literals_.lengths_.length c673, .slice A676 w_664.literals_.codes_.length c677]⟩), some (ptr b1109 1), some (.int .i64 ((rd l_688 v1105).Len_)), none, none]) hS mixed rfl ?_
     intro l w ho hcl hA hst
     refine phq hA hst ho hcl navail nmust 7 [0, 1, 2, 3, 4, 5, 6] rfl rfl rfl rfl rfl (by exact ⟨nR rfl rfl rfl rfl rfl (by exact ovE (mv rfl) rfl), nR rfl rfl rfl rfl rfl (by exact ovE (mv rfl) rfl), nR rfl rfl rfl rfl rfl (by exact ovE (nck rfl) rfl), nR rfl rfl rfl rfl rfl (by exact ovE (fad rfl Tryd.runUnderlying49 rfl Tryd.sizeOf47 rfl) rfl), nR rfl rfl rfl rfl rfl (by exact ovE (ldbA 1 rfl hB1104 rfl ([.slice A672 w_664.literals_.lengths_.length c673, .slice A676 w_664.literals_.codes_.length c677]) rfl rfl Tryd.isAgg47 Tryd.sizeOf47) rfl), nR rfl rfl rfl rfl rfl (by exact ovE (fad rfl Tryd.runUnderlying32 rfl Tryd.sizeOf3 rfl) rfl), nR rfl rfl rfl rfl rfl (by exact ovE (ldb 0 rfl hB1113 rfl rfl Tryd.isAgg3) rfl), trivial⟩) fun D l a w ho hcl hav hpre hm hE hk hA hst => ?_
     have hS := (Ss.mk hE hst).env2 (e' := [(30, .int .i64 ((rd l_688 v1105).Len_))]) ⟨rfl, trivial⟩
     refine op_of_nth rfl <| s_call hS rfl Tryd.call35 (deflate_length_c hG K ((rd l_688 v1105).Len_) (hS.st.part 0 [0, 1, 2, 3, 4, 5, 6] (by kernel_rfl)) (wp_bind hM) (fun symbol1123 bits1124 more1125 w hM  hst => s_back hS.ev hst.appF rfl fun hS => ?_))
     replace hS : Ss _ _ _ H [f1112, f1103, f1101, f674, f678, f682, f686] F _ _ := hS
     refine wpList_nil (then_n ?_)
     replace hst := hS.st
     obtain ⟨hcl, hmust, hav2, hA⟩ := dn (vals' := [some (ptr b665 0), some (ptr b665 0), some (ptr b665 0), some (ptr b665 2), some (.agg ⟨[.slice A672 w_664.literals_.lengths_.length c673, .slice A676 w_664.literals_.codes_.length c677]⟩), some (ptr b1109 1), some (.int .i64 ((rd l_688 v1105).Len_)), some (.agg ⟨[.int .i64 symbol1123, .int .i64 bits1124, .int .u32 more1125]⟩), none]) 7 [(6, 7), (5, 6)] hA hcl hav hm hpre hk rfl rfl rfl rfl rfl rfl rfl
     clear hm hav
     refine phq hA hst ho hcl hav2 hmust 8 [0, 1, 2, 3, 4] rfl rfl rfl rfl rfl (by exact ⟨nR rfl rfl rfl rfl rfl (by exact ovE (mv rfl) rfl), nR rfl rfl rfl rfl rfl (by exact ovE (mv rfl) rfl), nR rfl rfl rfl rfl rfl (by exact ovE (nck rfl) rfl), nR rfl rfl rfl rfl rfl (by exact ovE (fad rfl Tryd.runUnderlying49 rfl Tryd.sizeOf47 rfl) rfl), nR rfl rfl rfl rfl rfl (by exact ovE (ldbA 1 rfl hB1104 rfl ([.slice A672 w_664.literals_.lengths_.length c673, .slice A676 w_664.literals_.codes_.length c677]) rfl rfl Tryd.isAgg47 Tryd.sizeOf47) rfl), trivial⟩) fun D l a w ho hcl hav hpre hm hE hk hA hst => ?_
     have hS := (Ss.mk hE hst).env2 (e' := [(24, ptr b665 0), (28, .agg ⟨[.slice A672 w_664.literals_.lengths_.length c673, .slice A676 w_664.literals_.codes_.length c677]⟩), (31, .agg ⟨[.int .i64 symbol1123, .int .i64 bits1124, .int .u32 more1125]⟩)]) ⟨rfl, rfl, rfl, trivial⟩
     refine op_of_nth rfl <| s_call hS rfl Tryd.call50 (deflate_writer_part_1279_c hG K (T_deflate_writer.mk (T_bits_Writer.mk (T_bits_place.mk at_1097) bytes1100) w_664.literals_ w_664.distances_) w_664.literals_ (T_deflate_part.mk symbol1123 bits1124 more1125) b665 f1103 A1098 c1099 f1101 A672 c673 f674 A676 c677 f678 A680 c681 f682 A684 c685 f686 hB1104 hV1102 hV675 hV679 hV683 hV687 (hS.st.part 6 [1, 2, 3, 4, 5, 6, 0] (by kernel_rfl)) (wp_bind hM) (fun at_1126 A1127 c1128 bytes1129 f1130 f1131 w hM h1132 h1133 hst => s_back hS.ev hst.appF rfl fun hS => ?_))
     replace hS : Ss _ _ _ H [f1131, f1130, f674, f678, f682, f686, f1112] F _ _ := hS
     refine wpList_nil (then_n ?_)
     replace hst := hS.st
     obtain ⟨hcl, hmust, hav2, hA⟩ := dn (vals' := [some (ptr b665 0), some (ptr b665 0), some (ptr b665 0), some (ptr b665 2), some (.agg ⟨[.slice A672 w_664.literals_.lengths_.length c673, .slice A676 w_664.literals_.codes_.length c677]⟩), some (ptr b1109 1), some (.int .i64 ((rd l_688 v1105).Len_)), some (.agg ⟨[.int .i64 symbol1123, .int .i64 bits1124, .int .u32 more1125]⟩), some (.tuple ⟨[]⟩)]) 8 [(0, 8), (4, 8), (7, 8), (3, 4), (6, 7), (2, 3), (5, 6), (1, 2)] hA hcl hav hm hpre hk rfl rfl rfl rfl rfl rfl rfl
     clear hm hav
     refine phqE hA hst ho hcl hmust [] rfl rfl rfl trivial fun a w hS => ?_
     replace hS := hS.env2 (e' := [(0, ptr b665 0), (5, ptr b1109 0), (6, .slice A689 l_688.length c690), (7, .int .i64 (l_688.length : Int)), (8, .int .i64 v1105)]) ⟨rfl, rfl, rfl, rfl, rfl, trivial⟩
     refine then_n <| draw_begin (vals := [some (ptr b665 0), some (ptr b665 0), some (ptr b665 0), some (ptr b665 4), some (.agg ⟨[.slice A680 w_664.distances_.lengths_.length c681, .slice A684 w_664.distances_.codes_.length c685]⟩), some (ptr b1109 2), some (.int .i64 ((rd l_688 v1105).Dist_)), none, none]) hS mixed rfl ?_
     intro l w ho hcl hA hst
     refine phq hA hst ho hcl navail nmust 7 [0, 1, 2, 3, 4, 5, 6] rfl rfl rfl rfl rfl (by exact ⟨nR rfl rfl rfl rfl rfl (by exact ovE (mv rfl) rfl), nR rfl rfl rfl rfl rfl (by exact ovE (mv rfl) rfl), nR rfl rfl rfl rfl rfl (by exact ovE (nck rfl) rfl), nR rfl rfl rfl rfl rfl (by exact ovE (fad rfl Tryd.runUnderlying49 rfl Tryd.sizeOf47 rfl) rfl), nR rfl rfl rfl rfl rfl (by exact ovE (ldbA 0 rfl h1133 rfl ([.slice A680 w_664.distances_.lengths_.length c681, .slice A684 w_664.distances_.codes_.length c685]) rfl rfl Tryd.isAgg47 Tryd.sizeOf47) rfl), nR rfl rfl rfl rfl rfl (by exact ovE (fad rfl Tryd.runUnderlying32 rfl Tryd.sizeOf3 rfl) rfl), nR rfl rfl rfl rfl rfl (by exact ovE (ldb 6 rfl hB1113 rfl rfl Tryd.isAgg3) rfl), trivial⟩) fun D l a w ho hcl hav hpre hm hE hk hA hst => ?_
     have hS := (Ss.mk hE hst).env2 (e' := [(39, .int .i64 ((rd l_688 v1105).Dist_))]) ⟨rfl, trivial⟩
     refine op_of_nth rfl <| s_call hS rfl Tryd.call36 (deflate_distance_c hG K ((rd l_688 v1105).Dist_) (hS.st.part 0 [0, 1, 2, 3, 4, 5, 6] (by kernel_rfl)) (wp_bind hM) (fun symbol1134 bits1135 more1136 w hM  hst => s_back hS.ev hst.appF rfl fun hS => ?_))
     replace hS : Ss _ _ _ H [f1131, f1130, f674, f678, f682, f686, f1112] F _ _ := hS
     refine wpList_nil (then_n ?_)
     replace hst := hS.st
     obtain ⟨hcl, hmust, hav2, hA⟩ := dn (vals' := [some (ptr b665 0), some (ptr b665 0), some (ptr b665 0), some (ptr b665 4), some (.agg ⟨[.slice A680 w_664.distances_.lengths_.length c681, .slice A684 w_664.distances_.codes_.length c685]⟩), some (ptr b1109 2), some (.int .i64 ((rd l_688 v1105).Dist_)), some (.agg ⟨[.int .i64 symbol1134, .int .i64 bits1135, .int .u32 more1136]⟩), none]) 7 [(6, 7), (5, 6)] hA hcl hav hm hpre hk rfl rfl rfl rfl rfl rfl rfl
     clear hm hav
     refine phq hA hst ho hcl hav2 hmust 8 [0, 1, 2, 3, 4] rfl rfl rfl rfl rfl (by exact ⟨nR rfl rfl rfl rfl rfl (by exact ovE (mv rfl) rfl), nR rfl rfl rfl rfl rfl (by exact ovE (mv rfl) rfl), nR rfl rfl rfl rfl rfl (by exact ovE (nck rfl) rfl), nR rfl rfl rfl rfl rfl (by exact ovE (fad rfl Tryd.runUnderlying49 rfl Tryd.sizeOf47 rfl) rfl), nR rfl rfl rfl rfl rfl (by exact ovE (ldbA 0 rfl h1133 rfl ([.slice A680 w_664.distances_.lengths_.length c681, .slice A684 w_664.distances_.codes_.length c685]) rfl rfl Tryd.isAgg47 Tryd.sizeOf47) rfl), trivial⟩) fun D l a w ho hcl hav hpre hm hE hk hA hst => ?_
     have hS := (Ss.mk hE hst).env2 (e' := [(33, ptr b665 0), (37, .agg ⟨[.slice A680 w_664.distances_.lengths_.length c681, .slice A684 w_664.distances_.codes_.length c685]⟩), (40, .agg ⟨[.int .i64 symbol1134, .int .i64 bits1135, .int .u32 more1136]⟩)]) ⟨rfl, rfl, rfl, trivial⟩
     refine op_of_nth rfl <| s_call hS rfl Tryd.call50 (deflate_writer_part_7ef6_c hG K (T_deflate_writer.mk (T_bits_Writer.mk (T_bits_place.mk at_1126) bytes1129) w_664.literals_ w_664.distances_) w_664.distances_ (T_deflate_part.mk symbol1134 bits1135 more1136) b665 f1131 A1127 c1128 f1130 A672 c673 f674 A676 c677 f678 A680 c681 f682 A684 c685 f686 h1133 h1132 hV675 hV679 hV683 hV687 (hS.st.part 6 [0, 1, 2, 3, 4, 5, 6] (by kernel_rfl)) (wp_bind hM) (fun at_1137 A1138 c1139 bytes1140 f1141 f1142 w hM h1143 h1144 hst => s_back hS.ev hst.appF rfl fun hS => ?_))
     replace hS : Ss _ _ _ H [f1142, f1141, f674, f678, f682, f686, f1112] F _ _ := hS
     refine wpList_nil (then_n ?_)
     replace hst := hS.st
     obtain ⟨hcl, hmust, hav2, hA⟩ := dn (vals' := [some (ptr b665 0), some (ptr b665 0), some (ptr b665 0), some (ptr b665 4), some (.agg ⟨[.slice A680 w_664.distances_.lengths_.length c681, .slice A684 w_664.distances_.codes_.length c685]⟩), some (ptr b1109 2), some (.int .i64 ((rd l_688 v1105).Dist_)), some (.agg ⟨[.int .i64 symbol1134, .int .i64 bits1135, .int .u32 more1136]⟩), some (.tuple ⟨[]⟩)]) 8 [(0, 8), (4, 8), (7, 8), (3, 4), (6, 7), (2, 3), (5, 6), (1, 2)] hA hcl hav hm hpre hk rfl rfl rfl rfl rfl rfl rfl
     clear hm hav
     refine phqE hA hst ho hcl hmust [] rfl rfl rfl trivial fun a w hS => ?_
     replace hS := hS.env2 (e' := [(0, ptr b665 0), (6, .slice A689 l_688.length c690), (7, .int .i64 (l_688.length : Int)), (8, .int .i64 v1105)]) ⟨rfl, rfl, rfl, rfl, trivial⟩
     refine blk_n (then_n ?_)
     refine wp_region_list <| st1 hS (bin rfl rfl rfl) rfl fun a w hS => st1 hS (mv rfl) rfl fun a w hS => wpList_nil <| then_n ?_
     exact hJ1145 _ _ ⟨at_1137, A1138, c1139, bytes1140, f1141, f1142, (w64 (v1105 + (1 : Int))), hS.to [0, 1, 2, 3, 4, 5] (by kernel_rfl) ⟨rfl, rfl, rfl, rfl, trivial⟩, h1143, h1144, hM⟩
   ·refine wp_exit ?_
    refine then_ex (then_ex (blk_same (then_n ?_)))
    exact hJ1154 _ _ ⟨at_1097, A1098, c1099, bytes1100, f1101, f1103, hS.to [0, 1, 2, 3, 4, 5] (by kernel_rfl) ⟨rfl, trivial⟩, hV1102, hB1104, hM⟩
 ·intro a w hI
  obtain ⟨at_1146, A1147, c1148, bytes1149, f1150, f1152, hS, hV1151, hB1153, hM⟩ := hI
  rw [deflate_writer_tokens.j2] at hM
  refine wp_region_list <| st1 hS (mv rfl) rfl fun a w hS => st1 hS (mv rfl) rfl fun a w hS => st1 hS (nck rfl) rfl fun a w hS => st1 hS (fad rfl Tryd.runUnderlying49 rfl Tryd.sizeOf47 rfl) rfl fun a w hS => st1 hS (ldbA 0 rfl hB1153 rfl ([.slice A672 w_664.literals_.lengths_.length c673, .slice A676 w_664.literals_.codes_.length c677]) rfl rfl Tryd.isAgg47 Tryd.sizeOf47) rfl fun a w hS => s_call hS rfl Tryd.call41 (deflate_writer_symbol_1279_c hG K (T_deflate_writer.mk (T_bits_Writer.mk (T_bits_place.mk at_1146) bytes1149) w_664.literals_ w_664.distances_) w_664.literals_ (256 : Int) b665 f1152 A1147 c1148 f1150 A672 c673 f674 A676 c677 f678 A680 c681 f682 A684 c685 f686 hB1153 hV1151 hV675 hV679 hV683 hV687 (hS.st.part 6 [0, 1, 2, 3, 4, 5] (by kernel_rfl)) (wp_bind hM) (fun at_1155 A1156 c1157 bytes1158 f1159 f1160 w hM h1161 h1162 hst => s_back hS.ev hst.appF rfl fun hS => ?_))
  replace hS : Ss _ _ _ H [f1160, f1159, f674, f678, f682, f686] F _ _ := hS
  refine wpList_nil ?_
  exact s_end (rs := []) hS rfl rfl (hret at_1155 A1156 c1157 bytes1158 f1159 f1160 w (wp_ok hM) h1161 h1162 (hS.st.pick [0, 1, 2, 3, 4, 5] (by kernel_rfl)))

theorem bits_Writer_String_deflate_writer_c {H : Imm} {F : List Frag} {w : World} {R : Ending → World → Prop} {kr : (List UInt8) → Prop} {kp : Value → Prop} (hG : Gl H) (K : Nat) (w_1179 : T_deflate_writer) (b1180 : Nat) (f1181 : Frag) (A1183 : Option Addr) (c1184 : Nat) (f1185 : Frag) (A1187 : Option Addr) (c1188 : Nat) (f1189 : Frag) (A1191 : Option Addr) (c1192 : Nat) (f1193 : Frag) (A1195 : Option Addr) (c1196 : Nat) (f1197 : Frag) (A1199 : Option Addr) (c1200 : Nat) (f1201 : Frag) (hB1182 : Blk f1181 b1180 ([.int .i64 w_1179.Writer_.place_.at_, .slice A1183 w_1179.Writer_.bytes_.length c1184, .slice A1187 w_1179.literals_.lengths_.length c1188, .slice A1191 w_1179.literals_.codes_.length c1192, .slice A1195 w_1179.distances_.lengths_.length c1196, .slice A1199 w_1179.distances_.codes_.length c1200]) 49) (hV1186 : Vec 5 (ci .u8) 1 A1183 w_1179.Writer_.bytes_ c1184 f1185) (hV1190 : Vec 3 (ci .i64) 1 A1187 w_1179.literals_.lengths_ c1188 f1189) (hV1194 : Vec 3 (ci .i64) 1 A1191 w_1179.literals_.codes_ c1192 f1193) (hV1198 : Vec 3 (ci .i64) 1 A1195 w_1179.distances_.lengths_ c1196 f1197) (hV1202 : Vec 3 (ci .i64) 1 A1199 w_1179.distances_.codes_ c1200 f1201)
    (hS : St w H [f1181, f1185, f1189, f1193, f1197, f1201] F) (hm : (bits_Writer_String_deflate_writer.m K w_1179).wp kr kp)
    (hret : ∀ (x1204 : List UInt8) (w : World), kr x1204 → St w H [f1181, f1185, f1189, f1193, f1197, f1201] F → R (.returned (str x1204)) w) :
    Calls Tryd.prog 25 ⟨[ptr b1180 0]⟩ w R := by
 refine enter Tryd.func25 rfl Tryd.ntmps25 rfl hS fun a w hS => ?_
 have hM := hm; clear hm
 rw [bits_Writer_String_deflate_writer.m] at hM
 refine wp_seq <| wp_region_list <| st1 hS (asg rfl) rfl fun a w hS => wpList_nil <| then_n <| wp_seq <| wp_seq <| wp_region_list <| st1 hS (mv rfl) rfl fun a w hS => st1 hS (eqNil rfl rfl Tryd.runUnderlying103) rfl fun a w hS => wpList_nil <| then_n <| s_condF hS rfl <| wp_skip <| then_n <| wp_seq <| wp_region_list <| st1 hS (mv rfl) rfl fun a w hS => st1 hS (nck rfl) rfl fun a w hS => st1 hS (fad rfl Tryd.runUnderlying44 rfl Tryd.sizeOf38 rfl) rfl fun a w hS => st1 hS (ldb 0 rfl hB1182 rfl rfl Tryd.isAgg38) rfl fun a w hS => st1 hS (cbs rfl Tryd.runUnderlying38 Tryd.runUnderlying5 Tryd.runUnderlying9 (hV1186.rd (i := 1) rfl)) rfl fun a w hS => st1x (v := str) (x0 := (w_1179.Writer_.bytes_.map tob)) hS (asg rfl) rfl fun v1203 a w hz hS => ?_
 have hM := lt_to hz hM; clear hz
 refine wpList_nil <| then_n <| wp_ret ?_
 exact s_ret (rs := [2]) hS rfl rfl (hret v1203 w (wp_ok hM) (hS.st.pick [0, 1, 2, 3, 4, 5] (by kernel_rfl)))

theorem deflate_Fixed_c {H : Imm} {F : List Frag} {w : World} {R : Ending → World → Prop} {kr : ((List UInt8) × Int) → Prop} {kp : Value → Prop} (hG : Gl H) (K : Nat) (l_7 : List T_api_Token) (A8 : Option Addr) (c9 : Nat) (hr10 : Rdl H [] F T_api_Token.cells A8 l_7) (hc11 : l_7.length ≤ c9)
    (hS : St w H [] F) (hm : (deflate_Fixed.m K l_7).wp kr kp)
    (hret : ∀ (x1206 : List UInt8) (x1207 : Int) (w : World), kr (x1206, x1207) → St w H [] F → R (.returned (.tuple ⟨[str x1206, .int .i64 x1207]⟩)) w) :
    Calls Tryd.prog 12 ⟨[.slice A8 l_7.length c9]⟩ w R := by
 refine enter Tryd.func12 rfl Tryd.ntmps12 rfl hS fun a w hS => ?_
 have hM := hm; clear hm
 rw [deflate_Fixed.m] at hM
 refine wp_seq <| wp_region_list <| st1 hS (asg rfl) rfl fun a w hS => st1 hS (asg rfl) rfl fun a w hS => wpList_nil <| then_n <| wp_seq <| wp_seq <| wp_region_list <| st1 hS (mv rfl) rfl fun a w hS => s_call hS rfl Tryd.call21 (deflate_fine_c hG K l_7 A8 c9 (hr10.app _) hc11 (hS.st.part 0 [] (by kernel_rfl)) (wp_bind hM) (fun x81 w hM  hst => s_back hS.ev hst.appF rfl fun hS => ?_))
 replace hS : Ss _ _ _ H [] F _ _ := hS
 refine st1 hS (un rfl rfl) rfl fun a w hS => wpList_nil <| then_n <| s_cond hS rfl hM (fun hb82 hM => ?_) (fun hb82 hM => ?_)
 ·refine wp_seq ?_
  refine wp_region_list <| st1 hS (asg rfl) rfl fun a w hS => st1 hS (asg rfl) rfl fun a w hS => wpList_nil <| then_n <| wp_ret <| then_ret ?_
  exact s_ret (rs := [2, 3]) hS rfl rfl (hret ([] : List UInt8) (1 : Int) w (wp_ok hM) (hS.st.pick [] (by kernel_rfl)))
 ·refine wp_skip ?_
  refine then_n <| wp_seq <| wp_region_list <| st1 hS (bld ([.int .i64 (0 : Int), .slice none 0 0, .slice none 0 0, .slice none 0 0, .slice none 0 0, .slice none 0 0]) [(0, 2), (2, 2), (4, 2)] Tryd.zeroValue49 Tryd.runUnderlying49 (by intro w; simp [Tryd.sizeOf44, Tryd.sizeOf47]) rfl rfl) rfl fun a w hS => bx ([.int .i64 (0 : Int), .slice none 0 0, .slice none 0 0, .slice none 0 0, .slice none 0 0, .slice none 0 0]) hS rfl rfl rfl fun w b83 f84 hB85 hS => ?_
  obtain ⟨f86, hV87, hS⟩ := hS.nilV 5 (ci .u8) 1
  obtain ⟨f88, hV89, hS⟩ := hS.nilV 3 (ci .i64) 1
  obtain ⟨f90, hV91, hS⟩ := hS.nilV 3 (ci .i64) 1
  obtain ⟨f92, hV93, hS⟩ := hS.nilV 3 (ci .i64) 1
  obtain ⟨f94, hV95, hS⟩ := hS.nilV 3 (ci .i64) 1
  refine st1 hS (asg rfl) rfl fun a w hS => wpList_nil <| then_n <| wp_seq <| wp_region_list <| st1 hS (mv rfl) rfl fun a w hS => st1 hS (mv rfl) rfl fun a w hS => s_call hS rfl Tryd.call22 (deflate_fixedCodes_c hG K  (hS.st.part 0 [0, 1, 2, 3, 4, 5] (by kernel_rfl)) (wp_bind hM) (fun A491 c492 lengths493 f494 A495 c496 codes497 f498 A499 c500 lengths501 f502 A503 c504 codes505 f506 w hM h507 h508 h509 h510 hst => s_back hS.ev hst.appF rfl fun hS => ?_))
  replace hS : Ss _ _ _ H [f494, f498, f502, f506, f94, f92, f90, f88, f86, f84] F _ _ := hS
  refine st1 hS (mv rfl) rfl fun a w hS => st1 hS (ex rfl rfl) rfl fun a w hS => st1 hS (ex rfl rfl) rfl fun a w hS => st1 hS (nck rfl) rfl fun a w hS => st1 hS (fad rfl Tryd.runUnderlying49 rfl Tryd.sizeOf47 rfl) rfl fun a w hS => stB 9 ([.slice A491 lengths493.length c492, .slice A495 codes497.length c496]) ([.int .i64 (0 : Int), .slice none ([] : List Int).length (0), .slice A491 lengths493.length c492, .slice A495 codes497.length c496, .slice none ([] : List Int).length (0), .slice none ([] : List Int).length (0)]) hS rfl rfl hB85 rfl rfl Tryd.sizeOf47 (by simp [Value.oneCell']) (Nat.le_of_ble_eq_true rfl) rfl fun w f511 hB512 hS => st1 hS (nck rfl) rfl fun a w hS => st1 hS (fad rfl Tryd.runUnderlying49 rfl Tryd.sizeOf47 rfl) rfl fun a w hS => stB 9 ([.slice A499 lengths501.length c500, .slice A503 codes505.length c504]) ([.int .i64 (0 : Int), .slice none ([] : List Int).length (0), .slice A491 lengths493.length c492, .slice A495 codes497.length c496, .slice A499 lengths501.length c500, .slice A503 codes505.length c504]) hS rfl rfl hB512 rfl rfl Tryd.sizeOf47 (by simp [Value.oneCell']) (Nat.le_of_ble_eq_true rfl) rfl fun w f513 hB514 hS => wpList_nil <| then_n <| wp_seq <| wp_region_list <| st1 hS (mv rfl) rfl fun a w hS => st1 hS (nck rfl) rfl fun a w hS => st1 hS (fad rfl Tryd.runUnderlying49 rfl Tryd.sizeOf44 rfl) rfl fun a w hS => s_call hS rfl Tryd.call23 (bits_Writer_Put_deflate_writer_c hG K (T_deflate_writer.mk (T_bits_Writer.mk (T_bits_place.mk (0 : Int)) ([] : List Int)) (T_deflate_code.mk lengths493 codes497) (T_deflate_code.mk lengths501 codes505)) (3 : Int) (3 : Int) b83 f513 none (0) f86 A491 c492 f494 A495 c496 f498 A499 c500 f502 A503 c504 f506 hB514 hV87 h507 h508 h509 h510 (hS.st.part 6 [9, 8, 0, 1, 2, 3, 4, 5, 6, 7] (by kernel_rfl)) (wp_bind hM) (fun x655 at_656 A657 c658 bytes659 f660 f661 w hM h662 h663 hst => s_back hS.ev hst.appF rfl fun hS => ?_))
  replace hS : Ss _ _ _ H [f661, f660, f494, f498, f502, f506, f94, f92, f90, f88] F _ _ := hS
  refine wpList_nil <| then_n <| wp_seq <| wp_region_list <| st1 hS (mv rfl) rfl fun a w hS => st1 hS (mv rfl) rfl fun a w hS => s_call hS rfl Tryd.call24 (deflate_writer_tokens_c hG K (T_deflate_writer.mk (T_bits_Writer.mk (T_bits_place.mk at_656) bytes659) (T_deflate_code.mk lengths493 codes497) (T_deflate_code.mk lengths501 codes505)) l_7 b83 f661 A657 c658 f660 A491 c492 f494 A495 c496 f498 A499 c500 f502 A503 c504 f506 A8 c9 h663 h662 h507 h508 h509 h510 (hr10.app _) hc11 (hS.st.part 6 [0, 1, 2, 3, 4, 5, 6, 7, 8, 9] (by kernel_rfl)) (wp_bind hM) (fun at_1171 A1172 c1173 bytes1174 f1175 f1176 w hM h1177 h1178 hst => s_back hS.ev hst.appF rfl fun hS => ?_))
  replace hS : Ss _ _ _ H [f1176, f1175, f494, f498, f502, f506, f94, f92, f90, f88] F _ _ := hS
  refine wpList_nil <| then_n <| wp_seq <| wp_region_list <| st1 hS (mv rfl) rfl fun a w hS => st1 hS (nck rfl) rfl fun a w hS => st1 hS (fad rfl Tryd.runUnderlying49 rfl Tryd.sizeOf44 rfl) rfl fun a w hS => s_call hS rfl Tryd.call25 (bits_Writer_String_deflate_writer_c hG K (T_deflate_writer.mk (T_bits_Writer.mk (T_bits_place.mk at_1171) bytes1174) (T_deflate_code.mk lengths493 codes497) (T_deflate_code.mk lengths501 codes505)) b83 f1176 A1172 c1173 f1175 A491 c492 f494 A495 c496 f498 A499 c500 f502 A503 c504 f506 h1178 h1177 h507 h508 h509 h510 (hS.st.part 6 [0, 1, 2, 3, 4, 5, 6, 7, 8, 9] (by kernel_rfl)) (wp_bind hM) (fun x1205 w hM  hst => s_back hS.ev hst.appF rfl fun hS => ?_))
  replace hS : Ss _ _ _ H [f1176, f1175, f494, f498, f502, f506, f94, f92, f90, f88] F _ _ := hS
  refine st1 hS (asg rfl) rfl fun a w hS => st1 hS (asg rfl) rfl fun a w hS => wpList_nil <| then_n <| wp_ret ?_
  exact s_ret (rs := [2, 3]) hS rfl rfl (hret x1205 (0 : Int) w (wp_ok hM) (hS.st.pick [] (by kernel_rfl)))

theorem huff_Lengths_1_c {H : Imm} {F : List Frag} {w : World} {R : Ending → World → Prop} {kr : Bool → Prop} {kp : Value → Prop} (hG : Gl H) (K : Nat) (n_1431 : Int)
    (hS : St w H [] F) (hm : (huff_Lengths_1.m K n_1431).wp kr kp)
    (hret : ∀ (x1433 : Bool) (w : World), kr x1433 → St w H [] F → R (.returned (.bool x1433)) w) :
    Calls Tryd.prog 55 ⟨[.int .i64 n_1431]⟩ w R := by
 refine enter Tryd.func55 rfl Tryd.ntmps55 rfl hS fun a w hS => ?_
 have hM := hm; clear hm
 rw [huff_Lengths_1.m] at hM
 refine wp_seq <| wp_region_list <| st1 hS (asg rfl) rfl fun a w hS => wpList_nil <| then_n <| wp_seq <| wp_region_list <| st1 hS (mv rfl) rfl fun a w hS => st1 hS (bin rfl rfl rfl) rfl fun a w hS => st1 hS (mv rfl) rfl fun a w hS => g_op 2 false 5 (b := (decide (n_1431 < (0 : Int)))) (r := (decide (n_1431 > (1099511627776 : Int)))) hS rfl rfl rfl rfl rfl rfl rfl (fun hb a w hS K hK => ?_) rfl fun a w hS => ?_
 ·refine st1g hS rfl rfl rfl hb (mv rfl) rfl fun a w hS => ?_
  refine st1g hS rfl rfl rfl hb (bin rfl rfl rfl) rfl fun a w hS => ?_
  exact wpList_nil (hK _ _ (hS.up 2 rfl rfl))
 refine st1x (v := Value.bool) (x0 := ((decide (n_1431 < (0 : Int))) || (decide (n_1431 > (1099511627776 : Int))))) hS (asg rfl) rfl fun v1432 a w hz hS => ?_
 have hM := lt_to hz hM; clear hz
 refine wpList_nil <| then_n <| wp_ret ?_
 exact s_ret (rs := [2]) hS rfl rfl (hret v1432 w (wp_ok hM) (hS.st.pick [] (by kernel_rfl)))

theorem slices_IndexFunc___int_int__5d67_c {H : Imm} {F : List Frag} {w : World} {R : Ending → World → Prop} {kr : Int → Prop} {kp : Value → Prop} (hG : Gl H) (K : Nat) (s1422 : List Int) (A1423 : Option Addr) (c1424 : Nat) (hr1425 : Rdl H [] F (ci .i64) A1423 s1422) (hc1426 : s1422.length ≤ c1424)
    (hS : St w H [] F) (hm : (slices_IndexFunc___int_int__5d67.m K s1422).wp kr kp)
    (hret : ∀ (x1437 : Int) (w : World), kr x1437 → St w H [] F → R (.returned (.int .i64 x1437)) w) :
    Calls Tryd.prog 80 ⟨[.slice A1423 s1422.length c1424, fnv 55 [] []]⟩ w R := by
 refine enter Tryd.func80 rfl Tryd.ntmps80 rfl hS fun a w hS => ?_
 have hM := hm; clear hm
 rw [slices_IndexFunc___int_int__5d67.m] at hM
 refine wp_seq <| wp_region_list <| st1 hS (asg rfl) rfl fun a w hS => wpList_nil <| then_n <| wp_seq <| wp_seq <| wp_region_list <| st1 hS (mv rfl) rfl fun a w hS => st1 hS (lenV rfl Tryd.runUnderlying45) rfl fun a w hS => st1 hS (mv rfl) rfl fun a w hS => wpList_nil <| then_n <| wp_block <| s_loopJ (fun k1428 a w => ∃ (v1427 : Int), Ss 19 [] [(0, .slice A1423 s1422.length c1424), (1, fnv 55 [] []), (7, .int .i64 (s1422.length : Int)), (8, .int .i64 v1427)] H [] F a w ∧ (slices_IndexFunc___int_int__5d67.l1 K s1422 k1428 v1427).wp kr kp) K ?_ ?_ ?_
 ·exact ⟨(0 : Int), hS.to [] (by kernel_rfl) ⟨rfl, rfl, rfl, rfl, trivial⟩, hM⟩
 ·intro a w hI; obtain ⟨_, _, hM⟩ := hI; exact wp_fail hM
 ·intro k1428 a w hI J1436 hJ1436
  obtain ⟨v1427, hS, hM⟩ := hI
  rw [slices_IndexFunc___int_int__5d67.l1] at hM
  refine wp_seq <| wp_region_list <| st1 hS (bin rfl rfl rfl) rfl fun a w hS => wpList_nil <| then_n <| wp_seq <| s_cond hS rfl hM (fun hb1429 hM => ?_) (fun hb1429 hM => ?_)
  ·refine wp_skip ?_
   refine then_n <| wp_seq <| wp_block <| wp_seq <| wp_region_list <| st1 hS (mv rfl) rfl fun a w hS => st1 hS (asg rfl) rfl fun a w hS => wpList_nil <| then_n <| wp_seq <| wp_region_list <| st1 hS (mv rfl) rfl fun a w hS => st1 hS (mv rfl) rfl fun a w hS => st1 hS (mv rfl) rfl fun a w hS => ?_
   obtain ⟨hk1430, hM⟩ := wp_chk hM
   refine st1 hS (ixV rfl rfl Tryd.runUnderlying45 Tryd.sizeOf3 hr1425.wk (fun _ => rfl) rfl hk1430) rfl fun a w hS => st1 hS (ldV0 rfl hr1425.wk (fun _ => rfl) hk1430 rfl Tryd.isAgg3) rfl fun a w hS => s_callV hS rfl rfl Tryd.call55 (huff_Lengths_1_c hG K (rd s1422 v1427) (hS.st.part 0 [] (by kernel_rfl)) (wp_bind hM) (fun x1434 w hM  hst => s_back hS.ev hst.appF rfl fun hS => ?_))
   replace hS : Ss _ _ _ H [] F _ _ := hS
   refine wpList_nil <| then_n <| s_cond hS rfl hM (fun hb1435 hM => ?_) (fun hb1435 hM => ?_)
   ·refine wp_seq ?_
    refine wp_region_list <| st1 hS (mv rfl) rfl fun a w hS => st1 hS (asg rfl) rfl fun a w hS => wpList_nil <| then_n <| wp_ret <| blk_ret (then_ret (then_ret (blk_ret (then_ret ?_))))
    exact s_ret (rs := [4]) hS rfl rfl (hret v1427 w (wp_ok hM) (hS.st.pick [] (by kernel_rfl)))
   ·refine wp_skip ?_
    refine blk_n (then_n ?_)
    refine wp_region_list <| st1 hS (bin rfl rfl rfl) rfl fun a w hS => st1 hS (mv rfl) rfl fun a w hS => wpList_nil <| then_n ?_
    exact hJ1436 _ _ ⟨(w64 (v1427 + (1 : Int))), hS.to [] (by kernel_rfl) ⟨rfl, rfl, rfl, rfl, trivial⟩, hM⟩
  ·refine wp_exit ?_
   refine then_ex (then_ex (blk_same (then_n ?_)))
   refine wp_seq <| wp_region_list <| st1 hS (asg rfl) rfl fun a w hS => wpList_nil <| then_n <| wp_ret ?_
   exact s_ret (rs := [4]) hS rfl rfl (hret (-1 : Int) w (wp_ok hM) (hS.st.pick [] (by kernel_rfl)))

theorem slices_ContainsFunc___int_int__5d67_c {H : Imm} {F : List Frag} {w : World} {R : Ending → World → Prop} {kr : Bool → Prop} {kp : Value → Prop} (hG : Gl H) (K : Nat) (s1417 : List Int) (A1418 : Option Addr) (c1419 : Nat) (hr1420 : Rdl H [] F (ci .i64) A1418 s1417) (hc1421 : s1417.length ≤ c1419)
    (hS : St w H [] F) (hm : (slices_ContainsFunc___int_int__5d67.m K s1417).wp kr kp)
    (hret : ∀ (x1440 : Bool) (w : World), kr x1440 → St w H [] F → R (.returned (.bool x1440)) w) :
    Calls Tryd.prog 54 ⟨[.slice A1418 s1417.length c1419, fnv 55 [] []]⟩ w R := by
 refine enter Tryd.func54 rfl Tryd.ntmps54 rfl hS fun a w hS => ?_
 have hM := hm; clear hm
 rw [slices_ContainsFunc___int_int__5d67.m] at hM
 refine wp_seq <| wp_region_list <| st1 hS (asg rfl) rfl fun a w hS => wpList_nil <| then_n <| wp_seq <| wp_region_list <| st1 hS (mv rfl) rfl fun a w hS => st1 hS (mv rfl) rfl fun a w hS => s_call hS rfl Tryd.call80 (slices_IndexFunc___int_int__5d67_c hG K s1417 A1418 c1419 (hr1420.app _) hc1421 (hS.st.part 0 [] (by kernel_rfl)) (wp_bind hM) (fun x1438 w hM  hst => s_back hS.ev hst.appF rfl fun hS => ?_))
 replace hS : Ss _ _ _ H [] F _ _ := hS
 refine st1 hS (bin rfl rfl rfl) rfl fun a w hS => st1x (v := Value.bool) (x0 := (decide (x1438 ≥ (0 : Int)))) hS (asg rfl) rfl fun v1439 a w hz hS => ?_
 have hM := lt_to hz hM; clear hz
 refine wpList_nil <| then_n <| wp_ret ?_
 exact s_ret (rs := [4]) hS rfl rfl (hret v1439 w (wp_ok hM) (hS.st.pick [] (by kernel_rfl)))

def R_huff_packet (p : Frag) (x : T_huff_packet) (vs : List Value) : Prop :=
  ∃ (A0 : Option Addr) (c0 : Nat), vs = [.int .i64 x.often_, .slice A0 x.symbols_.length c0] ∧ Pl p (ci .i64) A0 x.symbols_ ∧ x.symbols_.length ≤ c0
theorem R_huff_packet.mono {p p' : Frag} (hs : ∀ q ∈ p, q ∈ p') {x : T_huff_packet} {vs : List Value} (h : R_huff_packet p x vs) : R_huff_packet p' x vs := by
  obtain ⟨A0, c0, h0, h1, h2⟩ := h
  exact ⟨A0, c0, h0, h1.mono hs, h2⟩

theorem cmp_isNaN_int__c {H : Imm} {F : List Frag} {w : World} {R : Ending → World → Prop} {kr : Bool → Prop} {kp : Value → Prop} (hG : Gl H) (K : Nat) (x1640 : Int)
    (hS : St w H [] F) (hm : (cmp_isNaN_int_.m K x1640).wp kr kp)
    (hret : ∀ (x1642 : Bool) (w : World), kr x1642 → St w H [] F → R (.returned (.bool x1642)) w) :
    Calls Tryd.prog 82 ⟨[.int .i64 x1640]⟩ w R := by
 refine enter Tryd.func82 rfl Tryd.ntmps82 rfl hS fun a w hS => ?_
 have hM := hm; clear hm
 rw [cmp_isNaN_int_.m] at hM
 refine wp_seq <| wp_region_list <| st1 hS (asg rfl) rfl fun a w hS => wpList_nil <| then_n <| wp_seq <| wp_region_list <| st1 hS (mv rfl) rfl fun a w hS => st1 hS (mv rfl) rfl fun a w hS => st1 hS (bin rfl rfl rfl) rfl fun a w hS => st1x (v := Value.bool) (x0 := (x1640 != x1640)) hS (asg rfl) rfl fun v1641 a w hz hS => ?_
 have hM := lt_to hz hM; clear hz
 refine wpList_nil <| then_n <| wp_ret ?_
 exact s_ret (rs := [2]) hS rfl rfl (hret v1641 w (wp_ok hM) (hS.st.pick [] (by kernel_rfl)))

theorem cmp_Compare_int__c {H : Imm} {F : List Frag} {w : World} {R : Ending → World → Prop} {kr : Int → Prop} {kp : Value → Prop} (hG : Gl H) (K : Nat) (x1638 : Int) (y1639 : Int)
    (hS : St w H [] F) (hm : (cmp_Compare_int_.m K x1638 y1639).wp kr kp)
    (hret : ∀ (x1650 : Int) (w : World), kr x1650 → St w H [] F → R (.returned (.int .i64 x1650)) w) :
    Calls Tryd.prog 58 ⟨[.int .i64 x1638, .int .i64 y1639]⟩ w R := by
 refine enter Tryd.func58 rfl Tryd.ntmps58 rfl hS fun a w hS => ?_
 have hM := hm; clear hm
 rw [cmp_Compare_int_.m] at hM
 refine wp_seq <| wp_region_list <| st1 hS (asg rfl) rfl fun a w hS => wpList_nil <| then_n <| wp_seq <| wp_region_list <| st1 hS (mv rfl) rfl fun a w hS => s_call hS rfl Tryd.call82 (cmp_isNaN_int__c hG K x1638 (hS.st.part 0 [] (by kernel_rfl)) (wp_bind hM) (fun x1643 w hM  hst => s_back hS.ev hst.appF rfl fun hS => ?_))
 replace hS : Ss _ _ _ H [] F _ _ := hS
 refine st1 hS (asg rfl) rfl fun a w hS => wpList_nil <| then_n <| wp_seq <| wp_region_list <| st1 hS (mv rfl) rfl fun a w hS => s_call hS rfl Tryd.call82 (cmp_isNaN_int__c hG K y1639 (hS.st.part 0 [] (by kernel_rfl)) (wp_bind hM) (fun x1644 w hM  hst => s_back hS.ev hst.appF rfl fun hS => ?_))
 replace hS : Ss _ _ _ H [] F _ _ := hS
 refine st1 hS (asg rfl) rfl fun a w hS => wpList_nil <| then_n <| wp_seq <| wp_seq <| wp_region_list <| st1 hS (mv rfl) rfl fun a w hS => wpList_nil <| then_n <| s_cond hS rfl hM (fun hb1645 hM => ?_) (fun hb1645 hM => ?_)
 ·refine wp_seq ?_
  refine wp_seq <| wp_region_list <| st1 hS (mv rfl) rfl fun a w hS => wpList_nil <| then_n <| s_cond hS rfl hM (fun hb1646 hM => ?_) (fun hb1646 hM => ?_)
  ·refine wp_seq ?_
   refine wp_region_list <| st1 hS (asg rfl) rfl fun a w hS => wpList_nil <| then_n <| wp_ret <| then_ret (then_ret ?_)
   exact s_ret (rs := [4]) hS rfl rfl (hret (0 : Int) w (wp_ok hM) (hS.st.pick [] (by kernel_rfl)))
  ·refine wp_skip ?_
   refine then_n <| wp_seq <| wp_region_list <| st1 hS (asg rfl) rfl fun a w hS => wpList_nil <| then_n <| wp_ret <| then_ret ?_
   exact s_ret (rs := [4]) hS rfl rfl (hret (-1 : Int) w (wp_ok hM) (hS.st.pick [] (by kernel_rfl)))
 ·refine wp_skip ?_
  refine then_n <| wp_seq <| wp_seq <| wp_region_list <| st1 hS (mv rfl) rfl fun a w hS => wpList_nil <| then_n <| s_cond hS rfl hM (fun hb1647 hM => ?_) (fun hb1647 hM => ?_)
  ·refine wp_seq ?_
   refine wp_region_list <| st1 hS (asg rfl) rfl fun a w hS => wpList_nil <| then_n <| wp_ret <| then_ret ?_
   exact s_ret (rs := [4]) hS rfl rfl (hret (1 : Int) w (wp_ok hM) (hS.st.pick [] (by kernel_rfl)))
  ·refine wp_skip ?_
   refine then_n <| wp_seq <| wp_seq <| wp_region_list <| st1 hS (mv rfl) rfl fun a w hS => st1 hS (mv rfl) rfl fun a w hS => st1 hS (bin rfl rfl rfl) rfl fun a w hS => wpList_nil <| then_n <| s_cond hS rfl hM (fun hb1648 hM => ?_) (fun hb1648 hM => ?_)
   ·refine wp_seq ?_
    refine wp_region_list <| st1 hS (asg rfl) rfl fun a w hS => wpList_nil <| then_n <| wp_ret <| then_ret ?_
    exact s_ret (rs := [4]) hS rfl rfl (hret (-1 : Int) w (wp_ok hM) (hS.st.pick [] (by kernel_rfl)))
   ·refine wp_skip ?_
    refine then_n <| wp_seq <| wp_seq <| wp_region_list <| st1 hS (mv rfl) rfl fun a w hS => st1 hS (mv rfl) rfl fun a w hS => st1 hS (bin rfl rfl rfl) rfl fun a w hS => wpList_nil <| then_n <| s_cond hS rfl hM (fun hb1649 hM => ?_) (fun hb1649 hM => ?_)
    ·refine wp_seq ?_
     refine wp_region_list <| st1 hS (asg rfl) rfl fun a w hS => wpList_nil <| then_n <| wp_ret <| then_ret ?_
     exact s_ret (rs := [4]) hS rfl rfl (hret (1 : Int) w (wp_ok hM) (hS.st.pick [] (by kernel_rfl)))
    ·refine wp_skip ?_
     refine then_n <| wp_seq <| wp_region_list <| st1 hS (asg rfl) rfl fun a w hS => wpList_nil <| then_n <| wp_ret ?_
     exact s_ret (rs := [4]) hS rfl rfl (hret (0 : Int) w (wp_ok hM) (hS.st.pick [] (by kernel_rfl)))

theorem huff_Lengths_2_c {H : Imm} {F : List Frag} {w : World} {R : Ending → World → Prop} {kr : Int → Prop} {kp : Value → Prop} (hG : Gl H) (K : Nat) (x1622 : T_huff_packet) (y1627 : T_huff_packet) (A1623 : Option Addr) (c1624 : Nat) (A1628 : Option Addr) (c1629 : Nat) (hr1625 : Rdl H [] F (ci .i64) A1623 x1622.symbols_) (hc1626 : x1622.symbols_.length ≤ c1624) (hr1630 : Rdl H [] F (ci .i64) A1628 y1627.symbols_) (hc1631 : y1627.symbols_.length ≤ c1629)
    (hS : St w H [] F) (hm : (huff_Lengths_2.m K x1622 y1627).wp kr kp)
    (hret : ∀ (x1652 : Int) (w : World), kr x1652 → St w H [] F → R (.returned (.int .i64 x1652)) w) :
    Calls Tryd.prog 57 ⟨[.agg ⟨[.int .i64 x1622.often_, .slice A1623 x1622.symbols_.length c1624]⟩, .agg ⟨[.int .i64 y1627.often_, .slice A1628 y1627.symbols_.length c1629]⟩]⟩ w R := by
 refine enter Tryd.func57 rfl Tryd.ntmps57 rfl hS fun a w hS => ?_
 have hM := hm; clear hm
 rw [huff_Lengths_2.m] at hM
 refine wp_seq <| wp_region_list <| bx ([.int .i64 x1622.often_, .slice A1623 x1622.symbols_.length c1624]) hS rfl rfl rfl fun w b1632 f1633 hB1634 hS => bx ([.int .i64 y1627.often_, .slice A1628 y1627.symbols_.length c1629]) hS rfl rfl rfl fun w b1635 f1636 hB1637 hS => st1 hS (asg rfl) rfl fun a w hS => wpList_nil <| then_n <| wp_seq <| wp_region_list <| st1 hS (fad rfl Tryd.runUnderlying112 rfl Tryd.sizeOf3 rfl) rfl fun a w hS => st1 hS (ldb 1 rfl hB1634 rfl rfl Tryd.isAgg3) rfl fun a w hS => st1 hS (fad rfl Tryd.runUnderlying112 rfl Tryd.sizeOf3 rfl) rfl fun a w hS => st1 hS (ldb 0 rfl hB1637 rfl rfl Tryd.isAgg3) rfl fun a w hS => s_call hS rfl Tryd.call58 (cmp_Compare_int__c hG K x1622.often_ y1627.often_ (hS.st.part 0 [0, 1] (by kernel_rfl)) (wp_bind hM) (fun x1651 w hM  hst => s_back hS.ev hst.appF rfl fun hS => ?_))
 replace hS : Ss _ _ _ H [f1636, f1633] F _ _ := hS
 refine st1 hS (asg rfl) rfl fun a w hS => wpList_nil <| then_n <| wp_ret ?_
 exact s_ret (rs := [4]) hS rfl rfl (hret x1651 w (wp_ok hM) (hS.st.pick [] (by kernel_rfl)))

theorem slices_insertionSortCmpFunc_huff_packet__b6e1_5de2_c {H : Imm} {F : List Frag} {w : World} {R : Ending → World → Prop} {kr : (List T_huff_packet) → Prop} {kp : Value → Prop} (hG : Gl H) (K : Nat) (data1589 : List T_huff_packet) (a_1597 : Int) (b_1598 : Int) (p1590 : Frag) (A1591 : Option Addr) (c1592 : Nat) (rw1593 : List (Row 2)) (f1595 : Frag) (hr1594 : RelL (R_huff_packet p1590) data1589 rw1593) (hV1596 : Vec 112 (Row.v (sz := 2)) 2 A1591 rw1593 c1592 f1595)
    (hS : St w H [p1590, f1595] F) (hm : (slices_insertionSortCmpFunc_huff_packet__b6e1_5de2.m K data1589 a_1597 b_1598).wp kr kp)
    (hret : ∀ (rw1925 : List (Row 2)) (data1926 : (List T_huff_packet)) (f1927 : Frag) (w : World), kr data1926 → (Vec 112 (Row.v (sz := 2)) 2 A1591 rw1925 c1592 f1927) → (RelL (R_huff_packet p1590) data1926 rw1925) → (rw1925.length = rw1593.length) → St w H [p1590, f1927] F → R (.returned (.tuple ⟨[]⟩)) w) :
    Calls Tryd.prog 99 ⟨[.slice A1591 rw1593.length c1592, .int .i64 a_1597, .int .i64 b_1598, fnv 57 [] []]⟩ w R := by
 refine enter Tryd.func99 rfl Tryd.ntmps99 rfl hS fun a w hS => ?_
 have hM := hm; clear hm
 rw [slices_insertionSortCmpFunc_huff_packet__b6e1_5de2.m] at hM
 have hs1599 : ∀ q ∈ p1590, q ∈ p1590 := fun _ h => h
 have hz1600 : rw1593.length = rw1593.length := rfl
 refine wp_seq <| wp_region_list <| st1 hS (mv rfl) rfl fun a w hS => st1 hS (bin rfl rfl rfl) rfl fun a w hS => st1x (v := Value.int .i64) (x0 := (w64 (a_1597 + (1 : Int)))) hS (asg rfl) rfl fun i1601 a w hz hS => ?_
 have hM := lt_to hz hM; clear hz
 refine wpList_nil <| then_n <| wp_block <| s_loopJ (fun k1786 a w => ∃ (rw1779 : List (Row 2)) (data1780 : (List T_huff_packet)) (f1781 : Frag) (i1785 : Int), Ss 53 [] [(0, .slice A1591 rw1779.length c1592), (1, .int .i64 a_1597), (2, .int .i64 b_1598), (3, fnv 57 [] []), (8, .int .i64 i1785)] H [p1590, f1781] F a w ∧ (Vec 112 (Row.v (sz := 2)) 2 A1591 rw1779 c1592 f1781) ∧ (RelL (R_huff_packet p1590) data1780 rw1779) ∧ (rw1779.length = rw1593.length) ∧ (slices_insertionSortCmpFunc_huff_packet__b6e1_5de2.l1 K a_1597 b_1598 k1786 data1780 i1785).wp kr kp) K ?_ ?_ ?_
 ·exact ⟨rw1593, data1589, f1595, i1601, hS.to [0, 1] (by kernel_rfl) ⟨rfl, rfl, rfl, rfl, rfl, trivial⟩, hV1596, hr1594, hz1600, hM⟩
 ·intro a w hI; obtain ⟨_, _, _, _, _, _, _, _, hM⟩ := hI; exact wp_fail hM
 ·intro k1786 a w hI J1924 hJ1924
  obtain ⟨rw1779, data1780, f1781, i1785, hS, hV1782, hr1783, hz1784, hM⟩ := hI
  rw [slices_insertionSortCmpFunc_huff_packet__b6e1_5de2.l1] at hM
  refine wp_seq <| wp_seq <| wp_region_list <| st1 hS (mv rfl) rfl fun a w hS => st1 hS (mv rfl) rfl fun a w hS => st1 hS (bin rfl rfl rfl) rfl fun a w hS => wpList_nil <| then_n <| s_cond hS rfl hM (fun hb1787 hM => ?_) (fun hb1787 hM => ?_)
  ·refine wp_skip ?_
   refine then_n <| wp_seq <| wp_block <| wp_seq <| wp_region_list <| st1 hS (mv rfl) rfl fun a w hS => st1 hS (asg rfl) rfl fun a w hS => wpList_nil <| then_n <| wp_block <| s_loopJ (fun k1863 a w => ∃ (rw1856 : List (Row 2)) (data1857 : (List T_huff_packet)) (f1858 : Frag) (j1862 : Int), Ss 53 [] [(0, .slice A1591 rw1856.length c1592), (1, .int .i64 a_1597), (2, .int .i64 b_1598), (3, fnv 57 [] []), (8, .int .i64 i1785), (9, .int .i64 j1862)] H [p1590, f1858] F a w ∧ (Vec 112 (Row.v (sz := 2)) 2 A1591 rw1856 c1592 f1858) ∧ (RelL (R_huff_packet p1590) data1857 rw1856) ∧ (rw1856.length = rw1593.length) ∧ (slices_insertionSortCmpFunc_huff_packet__b6e1_5de2.l2 K (slices_insertionSortCmpFunc_huff_packet__b6e1_5de2.l1 K a_1597 b_1598 k1786) a_1597 i1785 k1863 data1857 j1862).wp kr kp) K ?_ ?_ ?_
   ·exact ⟨rw1779, data1780, f1781, i1785, hS.to [0, 1] (by kernel_rfl) ⟨rfl, rfl, rfl, rfl, rfl, rfl, trivial⟩, hV1782, hr1783, hz1784, hM⟩
   ·intro a w hI; obtain ⟨_, _, _, _, _, _, _, _, hM⟩ := hI; exact wp_fail hM
   ·intro k1863 a w hI J1923 hJ1923
    obtain ⟨rw1856, data1857, f1858, j1862, hS, hV1859, hr1860, hz1861, hM⟩ := hI
    rw [slices_insertionSortCmpFunc_huff_packet__b6e1_5de2.l2] at hM
    refine wp_seq <| seq_joinJ (fun a w => ∃ (v1880 : Bool), Ss 53 [] [(0, .slice A1591 rw1856.length c1592), (1, .int .i64 a_1597), (2, .int .i64 b_1598), (3, fnv 57 [] []), (8, .int .i64 i1785), (9, .int .i64 j1862), (34, .bool v1880)] H [p1590, f1858] F a w ∧ (slices_insertionSortCmpFunc_huff_packet__b6e1_5de2.j3 K (slices_insertionSortCmpFunc_huff_packet__b6e1_5de2.l1 K a_1597 b_1598 k1786) (slices_insertionSortCmpFunc_huff_packet__b6e1_5de2.l2 K (slices_insertionSortCmpFunc_huff_packet__b6e1_5de2.l1 K a_1597 b_1598 k1786) a_1597 i1785 k1863) i1785 data1857 j1862 v1880).wp kr kp) (fun J1881 hJ1881 => ?_) ?_
    ·refine ifB (b := (decide (j1862 > a_1597))) hM (fun hb1864 hM => ?_) (fun hb1864 hM => ?_)
     ·obtain ⟨hk1866, hM⟩ := wp_chk hM
      obtain ⟨A1867, c1868, hw1871, hp1869, hc1870⟩ := hr1860.get hk1866
      obtain ⟨hk1873, hM⟩ := wp_chk hM
      obtain ⟨A1874, c1875, hw1878, hp1876, hc1877⟩ := hr1860.get hk1873
      refine draw_begin (vals := [some (.int .i64 j1862), some (.int .i64 a_1597), some (.bool true), some (.bool true), some (fnv 57 [] []), some (.slice A1591 rw1856.length c1592), some (.int .i64 j1862), some (slp A1591 (Int.toNat j1862 * 2)), some (.agg ⟨[.int .i64 ((rd data1857 j1862).often_), .slice A1867 ((rd data1857 j1862).symbols_).length c1868]⟩), some (.slice A1591 rw1856.length c1592), some (.int .i64 j1862), some (.int .i64 (w64 (j1862 - (1 : Int)))), some (slp A1591 (Int.toNat (w64 (j1862 - (1 : Int))) * 2)), some (.agg ⟨[.int .i64 ((rd data1857 (w64 (j1862 - (1 : Int)))).often_), .slice A1874 ((rd data1857 (w64 (j1862 - (1 : Int)))).symbols_).length c1875]⟩), none, none, none]) hS mixed rfl ?_
      intro l w ho hcl hA hst
      refine phq hA hst ho hcl navail nmust 14 [0, 1, 2, 3, 4, 5, 6, 7, 8, 9, 10, 11, 12, 13] rfl rfl rfl rfl rfl (by exact ⟨nR rfl rfl rfl rfl rfl (by exact ovE (mv rfl) rfl), nR rfl rfl rfl rfl rfl (by exact ovE (mv rfl) rfl), nR rfl rfl rfl rfl rfl (by exact ovE (bin rfl rfl rfl) (congrArg Value.bool hb1864)), nR rfl rfl rfl rfl rfl (by exact ovE (mv rfl) rfl), nW rfl rfl rfl rfl rfl rfl rfl rfl (by exact ovE (mv rfl) rfl), nW rfl rfl rfl rfl rfl rfl rfl rfl (by exact ovE (mv rfl) rfl), nW rfl rfl rfl rfl rfl rfl rfl rfl (by exact ovE (mv rfl) rfl), nW rfl rfl rfl rfl rfl rfl rfl rfl (by exact ovE (ixV rfl rfl Tryd.runUnderlying110 Tryd.sizeOf112 (hV1859.rd (i := 1) rfl) Row.len rfl (hr1860.inb hk1866)) rfl), nW rfl rfl rfl rfl rfl rfl rfl rfl (by exact ovE (ovE (ldVA rfl (hV1859.rd (i := 1) rfl) Row.len (hr1860.inb hk1866) Tryd.isAgg112 Tryd.sizeOf112 rfl) (congrArg (fun l => Value.agg ⟨l⟩) hw1871)) rfl), nW rfl rfl rfl rfl rfl rfl rfl rfl (by exact ovE (mv rfl) rfl), nW rfl rfl rfl rfl rfl rfl rfl rfl (by exact ovE (mv rfl) rfl), nW rfl rfl rfl rfl rfl rfl rfl rfl (by exact ovE (bin rfl rfl rfl) rfl), nW rfl rfl rfl rfl rfl rfl rfl rfl (by exact ovE (ixV rfl rfl Tryd.runUnderlying110 Tryd.sizeOf112 (hV1859.rd (i := 1) rfl) Row.len rfl (hr1860.inb hk1873)) rfl), nW rfl rfl rfl rfl rfl rfl rfl rfl (by exact ovE (ovE (ldVA rfl (hV1859.rd (i := 1) rfl) Row.len (hr1860.inb hk1873) Tryd.isAgg112 Tryd.sizeOf112 rfl) (congrArg (fun l => Value.agg ⟨l⟩) hw1878)) rfl), trivial⟩) fun D l a w ho hcl hav hpre hm hE hk hA hst => ?_
      have hS := (Ss.mk hE hst).env2 (e' := [(21, .bool true), (22, fnv 57 [] []), (26, .agg ⟨[.int .i64 ((rd data1857 j1862).often_), .slice A1867 ((rd data1857 j1862).symbols_).length c1868]⟩), (31, .agg ⟨[.int .i64 ((rd data1857 (w64 (j1862 - (1 : Int)))).often_), .slice A1874 ((rd data1857 (w64 (j1862 - (1 : Int)))).symbols_).length c1875]⟩)]) ⟨rfl, rfl, rfl, rfl, trivial⟩
      refine op_of_nth rfl <| unguard hS rfl rfl rfl rfl <| s_callV hS rfl rfl Tryd.call57 (huff_Lengths_2_c hG K (T_huff_packet.mk ((rd data1857 j1862).often_) ((rd data1857 j1862).symbols_)) (T_huff_packet.mk ((rd data1857 (w64 (j1862 - (1 : Int)))).often_) ((rd data1857 (w64 (j1862 - (1 : Int)))).symbols_)) A1867 c1868 A1874 c1875 (hp1869.rdF (i := 0) rfl) hc1870 (hp1876.rdF (i := 0) rfl) hc1877 (hS.st.part 0 [0, 1] (by kernel_rfl)) (wp_bind hM) (fun x1879 w hM  hst => s_back hS.ev hst.appF rfl fun hS => ?_))
      replace hS : Ss _ _ _ H [p1590, f1858] F _ _ := hS
      refine wpList_nil (then_n ?_)
      replace hst := hS.st
      obtain ⟨hcl, hmust, hav2, hA⟩ := dn (vals' := [some (.int .i64 j1862), some (.int .i64 a_1597), some (.bool true), some (.bool true), some (fnv 57 [] []), some (.slice A1591 rw1856.length c1592), some (.int .i64 j1862), some (slp A1591 (Int.toNat j1862 * 2)), some (.agg ⟨[.int .i64 ((rd data1857 j1862).often_), .slice A1867 ((rd data1857 j1862).symbols_).length c1868]⟩), some (.slice A1591 rw1856.length c1592), some (.int .i64 j1862), some (.int .i64 (w64 (j1862 - (1 : Int)))), some (slp A1591 (Int.toNat (w64 (j1862 - (1 : Int))) * 2)), some (.agg ⟨[.int .i64 ((rd data1857 (w64 (j1862 - (1 : Int)))).often_), .slice A1874 ((rd data1857 (w64 (j1862 - (1 : Int)))).symbols_).length c1875]⟩), some (.int .i64 x1879), some (.bool (decide (x1879 < (0 : Int)))), some (.bool (decide (x1879 < (0 : Int))))]) 14 [(3, 14), (4, 14), (8, 14), (13, 14), (2, 3), (7, 8), (12, 13), (0, 2), (1, 2), (5, 7), (6, 7), (9, 12), (11, 12), (10, 11)] hA hcl hav hm hpre hk rfl rfl rfl rfl rfl rfl rfl
      clear hm hav
      refine phqE hA hst ho hcl hmust [15, 16] rfl rfl rfl (by exact ⟨nW rfl rfl rfl rfl rfl rfl rfl rfl (by exact ovE (bin rfl rfl rfl) rfl), nR rfl rfl rfl rfl rfl (by exact ovE (pk rfl rfl rfl) rfl), trivial⟩) fun a w hS => ?_
      replace hS := hS.env2 (e' := [(0, .slice A1591 rw1856.length c1592), (1, .int .i64 a_1597), (2, .int .i64 b_1598), (3, fnv 57 [] []), (8, .int .i64 i1785), (9, .int .i64 j1862), (34, .bool (decide (x1879 < (0 : Int))))]) ⟨rfl, rfl, rfl, rfl, rfl, rfl, rfl, trivial⟩
      refine then_n ?_
      exact hJ1881 _ _ ⟨(decide (x1879 < (0 : Int))), hS.to [0, 1] (by kernel_rfl) ⟨rfl, rfl, rfl, rfl, rfl, rfl, rfl, trivial⟩, hM⟩
     ·refine draw_begin (vals := [some (.int .i64 j1862), some (.int .i64 a_1597), some (.bool false), some (.bool false), some (undef), some (undef), some (undef), some (undef), some (undef), some (undef), some (undef), some (undef), some (undef), some (undef), some (undef), some (undef), some (.bool false)]) hS mixed rfl ?_
      intro l w ho hcl hA hst
      refine phqE hA hst ho hcl nmust [0, 1, 2, 3, 4, 5, 6, 7, 8, 9, 10, 11, 12, 13, 14, 15, 16] rfl rfl rfl (by exact ⟨nR rfl rfl rfl rfl rfl (by exact ovE (mv rfl) rfl), nR rfl rfl rfl rfl rfl (by exact ovE (mv rfl) rfl), nR rfl rfl rfl rfl rfl (by exact ovE (bin rfl rfl rfl) (congrArg Value.bool hb1864)), nR rfl rfl rfl rfl rfl (by exact ovE (mv rfl) rfl), nS rfl rfl rfl rfl rfl rfl rfl rfl rfl, nS rfl rfl rfl rfl rfl rfl rfl rfl rfl, nS rfl rfl rfl rfl rfl rfl rfl rfl rfl, nS rfl rfl rfl rfl rfl rfl rfl rfl rfl, nS rfl rfl rfl rfl rfl rfl rfl rfl rfl, nS rfl rfl rfl rfl rfl rfl rfl rfl rfl, nS rfl rfl rfl rfl rfl rfl rfl rfl rfl, nS rfl rfl rfl rfl rfl rfl rfl rfl rfl, nS rfl rfl rfl rfl rfl rfl rfl rfl rfl, nS rfl rfl rfl rfl rfl rfl rfl rfl rfl, nS rfl rfl rfl rfl rfl rfl rfl rfl rfl, nS rfl rfl rfl rfl rfl rfl rfl rfl rfl, nR rfl rfl rfl rfl rfl (by exact ovE (pk rfl rfl rfl) rfl), trivial⟩) fun a w hS => ?_
      replace hS := hS.env2 (e' := [(0, .slice A1591 rw1856.length c1592), (1, .int .i64 a_1597), (2, .int .i64 b_1598), (3, fnv 57 [] []), (8, .int .i64 i1785), (9, .int .i64 j1862), (34, .bool false)]) ⟨rfl, rfl, rfl, rfl, rfl, rfl, rfl, trivial⟩
      refine then_n ?_
      exact hJ1881 _ _ ⟨false, hS.to [0, 1] (by kernel_rfl) ⟨rfl, rfl, rfl, rfl, rfl, rfl, rfl, trivial⟩, hM⟩
    ·intro a w hI
     obtain ⟨v1880, hS, hM⟩ := hI
     rw [slices_insertionSortCmpFunc_huff_packet__b6e1_5de2.j3] at hM
     refine s_cond hS rfl hM (fun hb1882 hM => ?_) (fun hb1882 hM => ?_)
     ·refine wp_skip ?_
      refine then_n <| wp_seq <| wp_block ?_
      obtain ⟨hk1885, hM⟩ := wp_chk hM
      obtain ⟨A1886, c1887, hw1890, hp1888, hc1889⟩ := hr1860.get hk1885
      obtain ⟨hk1892, hM⟩ := wp_chk hM
      obtain ⟨A1893, c1894, hw1897, hp1895, hc1896⟩ := hr1860.get hk1892
      refine draw_begin (vals := [some (.slice A1591 rw1856.length c1592), some (.int .i64 j1862), some (.slice A1591 rw1856.length c1592), some (.int .i64 j1862), some (.int .i64 (w64 (j1862 - (1 : Int)))), some (.slice A1591 rw1856.length c1592), some (.int .i64 j1862), some (.int .i64 (w64 (j1862 - (1 : Int)))), some (slp A1591 (Int.toNat (w64 (j1862 - (1 : Int))) * 2)), some (.agg ⟨[.int .i64 ((rd data1857 (w64 (j1862 - (1 : Int)))).often_), .slice A1886 ((rd data1857 (w64 (j1862 - (1 : Int)))).symbols_).length c1887]⟩), some (.slice A1591 rw1856.length c1592), some (.int .i64 j1862), some (slp A1591 (Int.toNat j1862 * 2)), some (.agg ⟨[.int .i64 ((rd data1857 j1862).often_), .slice A1893 ((rd data1857 j1862).symbols_).length c1894]⟩), some (slp A1591 (Int.toNat j1862 * 2)), none, none, none]) hS mixed rfl ?_
      intro l w ho hcl hA hst
      refine phq hA hst ho hcl navail nmust 15 [0, 1, 2, 3, 4, 5, 6, 7, 8, 9, 10, 11, 12, 13, 14] rfl rfl rfl rfl rfl (by exact ⟨nR rfl rfl rfl rfl rfl (by exact ovE (mv rfl) rfl), nR rfl rfl rfl rfl rfl (by exact ovE (mv rfl) rfl), nR rfl rfl rfl rfl rfl (by exact ovE (mv rfl) rfl), nR rfl rfl rfl rfl rfl (by exact ovE (mv rfl) rfl), nR rfl rfl rfl rfl rfl (by exact ovE (bin rfl rfl rfl) rfl), nR rfl rfl rfl rfl rfl (by exact ovE (mv rfl) rfl), nR rfl rfl rfl rfl rfl (by exact ovE (mv rfl) rfl), nR rfl rfl rfl rfl rfl (by exact ovE (bin rfl rfl rfl) rfl), nR rfl rfl rfl rfl rfl (by exact ovE (ixV rfl rfl Tryd.runUnderlying110 Tryd.sizeOf112 (hV1859.rd (i := 1) rfl) Row.len rfl (hr1860.inb hk1885)) rfl), nR rfl rfl rfl rfl rfl (by exact ovE (ovE (ldVA rfl (hV1859.rd (i := 1) rfl) Row.len (hr1860.inb hk1885) Tryd.isAgg112 Tryd.sizeOf112 rfl) (congrArg (fun l => Value.agg ⟨l⟩) hw1890)) rfl), nR rfl rfl rfl rfl rfl (by exact ovE (mv rfl) rfl), nR rfl rfl rfl rfl rfl (by exact ovE (mv rfl) rfl), nR rfl rfl rfl rfl rfl (by exact ovE (ixV rfl rfl Tryd.runUnderlying110 Tryd.sizeOf112 (hV1859.rd (i := 1) rfl) Row.len rfl (hr1860.inb hk1892)) rfl), nR rfl rfl rfl rfl rfl (by exact ovE (ovE (ldVA rfl (hV1859.rd (i := 1) rfl) Row.len (hr1860.inb hk1892) Tryd.isAgg112 Tryd.sizeOf112 rfl) (congrArg (fun l => Value.agg ⟨l⟩) hw1897)) rfl), nR rfl rfl rfl rfl rfl (by exact ovE (ixV rfl rfl Tryd.runUnderlying110 Tryd.sizeOf112 (hV1859.rd (i := 1) rfl) Row.len rfl (hr1860.inb hk1892)) rfl), trivial⟩) fun D l a w ho hcl hav hpre hm hE hk hA hst => ?_
      have hS := (Ss.mk hE hst).env2 (e' := [(46, .agg ⟨[.int .i64 ((rd data1857 (w64 (j1862 - (1 : Int)))).often_), .slice A1886 ((rd data1857 (w64 (j1862 - (1 : Int)))).symbols_).length c1887]⟩), (51, slp A1591 (Int.toNat j1862 * 2))]) ⟨rfl, rfl, trivial⟩
      refine op_of_nth rfl <| stVR (i := j1862) (sz := 2) 1 (⟨[.int .i64 ((rd data1857 (w64 (j1862 - (1 : Int)))).often_), .slice A1886 ((rd data1857 (w64 (j1862 - (1 : Int)))).symbols_).length c1887], by simp, by simp [Value.oneCell']⟩ : Row 2) hS rfl rfl hV1859 rfl Tryd.sizeOf112 rfl (hr1860.inb hk1892) fun rw1904 w f1902 hz hV1903 hS => ?_
      obtain ⟨zs1905, hzm⟩ := nameE (data1857.set (Int.toNat j1862) (T_huff_packet.mk ((rd data1857 (w64 (j1862 - (1 : Int)))).often_) ((rd data1857 (w64 (j1862 - (1 : Int)))).symbols_)))
      replace hM := lt_to hzm hM
      have hr1906 := RelL.set (x := (T_huff_packet.mk ((rd data1857 (w64 (j1862 - (1 : Int)))).often_) ((rd data1857 (w64 (j1862 - (1 : Int)))).symbols_))) (r := (⟨[.int .i64 ((rd data1857 (w64 (j1862 - (1 : Int)))).often_), .slice A1886 ((rd data1857 (w64 (j1862 - (1 : Int)))).symbols_).length c1887], by simp, by simp [Value.oneCell']⟩ : Row 2)) (Int.toNat j1862) hr1860 (show R_huff_packet p1590 _ _ from ⟨A1886, c1887, rfl, hp1888, hc1889⟩)
      have hz1907 : rw1904.length = rw1856.length := by rw [hz]; exact List.length_set ..
      rw [← hz, ← hzm] at hr1906; clear hz hzm
      have hz1908 := Eq.trans hz1907 hz1861
      refine wpList_nil (then_n ?_)
      replace hst := hS.st
      obtain ⟨hk1910, hM⟩ := wp_chk hM
      obtain ⟨hcl, hmust, hav2, hA⟩ := dnN (vals' := [some (.slice A1591 rw1856.length c1592), some (.int .i64 j1862), some (.slice A1591 rw1856.length c1592), some (.int .i64 j1862), some (.int .i64 (w64 (j1862 - (1 : Int)))), some (.slice A1591 rw1856.length c1592), some (.int .i64 j1862), some (.int .i64 (w64 (j1862 - (1 : Int)))), some (slp A1591 (Int.toNat (w64 (j1862 - (1 : Int))) * 2)), some (.agg ⟨[.int .i64 ((rd data1857 (w64 (j1862 - (1 : Int)))).often_), .slice A1886 ((rd data1857 (w64 (j1862 - (1 : Int)))).symbols_).length c1887]⟩), some (.slice A1591 rw1856.length c1592), some (.int .i64 j1862), some (slp A1591 (Int.toNat j1862 * 2)), some (.agg ⟨[.int .i64 ((rd data1857 j1862).often_), .slice A1893 ((rd data1857 j1862).symbols_).length c1894]⟩), some (slp A1591 (Int.toNat j1862 * 2)), some undef, some (slp A1591 (Int.toNat (w64 (j1862 - (1 : Int))) * 2)), none]) 15 [(0, 15), (1, 15), (5, 15), (6, 15), (7, 15), (8, 15), (9, 15), (13, 15), (14, 15), (12, 13), (10, 12), (11, 12)] hA hcl hav hm hpre rfl rfl rfl rfl rfl
      clear hm hav
      refine phq hA hst ho hcl hav2 hmust 17 [2, 3, 4, 16] rfl rfl rfl rfl rfl (by exact ⟨nR rfl rfl rfl rfl rfl (by exact ovE (mv rfl) rfl), nR rfl rfl rfl rfl rfl (by exact ovE (mv rfl) rfl), nR rfl rfl rfl rfl rfl (by exact ovE (bin rfl rfl rfl) rfl), nR rfl rfl rfl rfl rfl (by exact ovE (ixV (lenx hz1907 rfl) rfl Tryd.runUnderlying110 Tryd.sizeOf112 (hV1903.rd (i := 1) rfl) Row.len rfl (hr1906.inb hk1910)) rfl), trivial⟩) fun D l a w ho hcl hav hpre hm hE hk hA hst => ?_
      have hS := (Ss.mk hE hst).env2 (e' := [(50, .agg ⟨[.int .i64 ((rd data1857 j1862).often_), .slice A1893 ((rd data1857 j1862).symbols_).length c1894]⟩), (52, slp A1591 (Int.toNat (w64 (j1862 - (1 : Int))) * 2))]) ⟨rfl, rfl, trivial⟩
      refine op_of_nth rfl <| stVR (i := (w64 (j1862 - (1 : Int)))) (sz := 2) 1 (⟨[.int .i64 ((rd data1857 j1862).often_), .slice A1893 ((rd data1857 j1862).symbols_).length c1894], by simp, by simp [Value.oneCell']⟩ : Row 2) hS rfl rfl hV1903 rfl Tryd.sizeOf112 rfl (hr1906.inb hk1910) fun rw1917 w f1915 hz hV1916 hS => ?_
      obtain ⟨zs1918, hzm⟩ := nameE (zs1905.set (Int.toNat (w64 (j1862 - (1 : Int)))) (T_huff_packet.mk ((rd data1857 j1862).often_) ((rd data1857 j1862).symbols_)))
      replace hM := lt_to hzm hM
      have hr1919 := RelL.set (x := (T_huff_packet.mk ((rd data1857 j1862).often_) ((rd data1857 j1862).symbols_))) (r := (⟨[.int .i64 ((rd data1857 j1862).often_), .slice A1893 ((rd data1857 j1862).symbols_).length c1894], by simp, by simp [Value.oneCell']⟩ : Row 2)) (Int.toNat (w64 (j1862 - (1 : Int)))) hr1906 (show R_huff_packet p1590 _ _ from ⟨A1893, c1894, rfl, hp1895, hc1896⟩)
      have hz1920 : rw1917.length = rw1904.length := by rw [hz]; exact List.length_set ..
      rw [← hz, ← hzm] at hr1919; clear hz hzm
      have hz1921 := Eq.trans hz1920 hz1908
      refine wpList_nil (then_n ?_)
      replace hst := hS.st
      obtain ⟨hcl, hmust, hav2, hA⟩ := dnN (vals' := [some (.slice A1591 rw1856.length c1592), some (.int .i64 j1862), some (.slice A1591 rw1856.length c1592), some (.int .i64 j1862), some (.int .i64 (w64 (j1862 - (1 : Int)))), some (.slice A1591 rw1856.length c1592), some (.int .i64 j1862), some (.int .i64 (w64 (j1862 - (1 : Int)))), some (slp A1591 (Int.toNat (w64 (j1862 - (1 : Int))) * 2)), some (.agg ⟨[.int .i64 ((rd data1857 (w64 (j1862 - (1 : Int)))).often_), .slice A1886 ((rd data1857 (w64 (j1862 - (1 : Int)))).symbols_).length c1887]⟩), some (.slice A1591 rw1856.length c1592), some (.int .i64 j1862), some (slp A1591 (Int.toNat j1862 * 2)), some (.agg ⟨[.int .i64 ((rd data1857 j1862).often_), .slice A1893 ((rd data1857 j1862).symbols_).length c1894]⟩), some (slp A1591 (Int.toNat j1862 * 2)), some undef, some (slp A1591 (Int.toNat (w64 (j1862 - (1 : Int))) * 2)), some undef]) 17 [(0, 17), (1, 17), (2, 17), (3, 17), (4, 17), (5, 17), (6, 17), (7, 17), (8, 17), (9, 17), (10, 17), (11, 17), (12, 17), (13, 17), (14, 17), (15, 17), (16, 17)] hA hcl hav hm hpre rfl rfl rfl rfl rfl
      clear hm hav
      refine phqE hA hst ho hcl hmust [] rfl rfl rfl trivial fun a w hS => ?_
      replace hS := hS.env2 (e' := [(0, .slice A1591 rw1917.length c1592), (1, .int .i64 a_1597), (2, .int .i64 b_1598), (3, fnv 57 [] []), (8, .int .i64 i1785), (9, .int .i64 j1862)]) ⟨(relk (u := .slice A1591 rw1856.length c1592) rfl (by rw [hz1920, hz1907])), rfl, rfl, rfl, rfl, rfl, trivial⟩
      refine blk_n (then_n ?_)
      refine wp_region_list <| st1 hS (mv rfl) rfl fun a w hS => st1 hS (bin rfl rfl rfl) rfl fun a w hS => st1x (v := Value.int .i64) (x0 := (w64 (j1862 - (1 : Int)))) hS (asg rfl) rfl fun j1922 a w hz hS => ?_
      have hM := lt_to hz hM; clear hz
      refine wpList_nil <| then_n ?_
      exact hJ1923 _ _ ⟨rw1917, zs1918, f1915, j1922, hS.to [0, 1] (by kernel_rfl) ⟨rfl, rfl, rfl, rfl, rfl, rfl, trivial⟩, hV1916, hr1919, hz1921, hM⟩
     ·refine wp_exit ?_
      refine then_ex (then_ex (blk_same (blk_n (then_n ?_))))
      refine wp_region_list <| st1 hS (mv rfl) rfl fun a w hS => st1 hS (bin rfl rfl rfl) rfl fun a w hS => st1x (v := Value.int .i64) (x0 := (w64 (i1785 + (1 : Int)))) hS (asg rfl) rfl fun i1883 a w hz hS => ?_
      have hM := lt_to hz hM; clear hz
      refine wpList_nil <| then_n ?_
      exact hJ1924 _ _ ⟨rw1856, data1857, f1858, i1883, hS.to [0, 1] (by kernel_rfl) ⟨rfl, rfl, rfl, rfl, rfl, trivial⟩, hV1859, hr1860, hz1861, hM⟩
  ·refine wp_exit ?_
   refine then_ex (then_ex (blk_same ?_))
   exact s_end (rs := []) hS rfl rfl (hret rw1779 data1780 f1781 w (wp_ok hM) hV1782 hr1783 hz1784 (hS.st.pick [0, 1] (by kernel_rfl)))

theorem slices_swapRangeCmpFunc_huff_packet__b6e1_7e8b_c {H : Imm} {F : List Frag} {w : World} {R : Ending → World → Prop} {kr : (List T_huff_packet) → Prop} {kp : Value → Prop} (hG : Gl H) (K : Nat) (data2307 : List T_huff_packet) (a_2315 : Int) (b_2316 : Int) (n_2317 : Int) (p2308 : Frag) (A2309 : Option Addr) (c2310 : Nat) (rw2311 : List (Row 2)) (f2313 : Frag) (hr2312 : RelL (R_huff_packet p2308) data2307 rw2311) (hV2314 : Vec 112 (Row.v (sz := 2)) 2 A2309 rw2311 c2310 f2313)
    (hS : St w H [p2308, f2313] F) (hm : (slices_swapRangeCmpFunc_huff_packet__b6e1_7e8b.m K data2307 a_2315 b_2316 n_2317).wp kr kp)
    (hret : ∀ (rw2418 : List (Row 2)) (data2419 : (List T_huff_packet)) (f2420 : Frag) (w : World), kr data2419 → (Vec 112 (Row.v (sz := 2)) 2 A2309 rw2418 c2310 f2420) → (RelL (R_huff_packet p2308) data2419 rw2418) → (rw2418.length = rw2311.length) → St w H [p2308, f2420] F → R (.returned (.tuple ⟨[]⟩)) w) :
    Calls Tryd.prog 109 ⟨[.slice A2309 rw2311.length c2310, .int .i64 a_2315, .int .i64 b_2316, .int .i64 n_2317, fnv 57 [] []]⟩ w R := by
 refine enter Tryd.func109 rfl Tryd.ntmps109 rfl hS fun a w hS => ?_
 have hM := hm; clear hm
 rw [slices_swapRangeCmpFunc_huff_packet__b6e1_7e8b.m] at hM
 have hs2318 : ∀ q ∈ p2308, q ∈ p2308 := fun _ h => h
 have hz2319 : rw2311.length = rw2311.length := rfl
 refine wp_seq <| wp_region_list <| st1 hS (asg rfl) rfl fun a w hS => wpList_nil <| then_n <| wp_block <| s_loopJ (fun k2376 a w => ∃ (rw2369 : List (Row 2)) (data2370 : (List T_huff_packet)) (f2371 : Frag) (i2375 : Int), Ss 38 [] [(0, .slice A2309 rw2369.length c2310), (1, .int .i64 a_2315), (2, .int .i64 b_2316), (3, .int .i64 n_2317), (10, .int .i64 i2375)] H [p2308, f2371] F a w ∧ (Vec 112 (Row.v (sz := 2)) 2 A2309 rw2369 c2310 f2371) ∧ (RelL (R_huff_packet p2308) data2370 rw2369) ∧ (rw2369.length = rw2311.length) ∧ (slices_swapRangeCmpFunc_huff_packet__b6e1_7e8b.l1 K a_2315 b_2316 n_2317 k2376 data2370 i2375).wp kr kp) K ?_ ?_ ?_
 ·exact ⟨rw2311, data2307, f2313, (0 : Int), hS.to [0, 1] (by kernel_rfl) ⟨rfl, rfl, rfl, rfl, rfl, trivial⟩, hV2314, hr2312, hz2319, hM⟩
 ·intro a w hI; obtain ⟨_, _, _, _, _, _, _, _, hM⟩ := hI; exact wp_fail hM
 ·intro k2376 a w hI J2417 hJ2417
  obtain ⟨rw2369, data2370, f2371, i2375, hS, hV2372, hr2373, hz2374, hM⟩ := hI
  rw [slices_swapRangeCmpFunc_huff_packet__b6e1_7e8b.l1] at hM
  refine wp_seq <| wp_seq <| wp_region_list <| st1 hS (mv rfl) rfl fun a w hS => st1 hS (mv rfl) rfl fun a w hS => st1 hS (bin rfl rfl rfl) rfl fun a w hS => wpList_nil <| then_n <| s_cond hS rfl hM (fun hb2377 hM => ?_) (fun hb2377 hM => ?_)
  ·refine wp_skip ?_
   refine then_n <| wp_seq <| wp_block ?_
   obtain ⟨hk2379, hM⟩ := wp_chk hM
   obtain ⟨A2380, c2381, hw2384, hp2382, hc2383⟩ := hr2373.get hk2379
   obtain ⟨hk2386, hM⟩ := wp_chk hM
   obtain ⟨A2387, c2388, hw2391, hp2389, hc2390⟩ := hr2373.get hk2386
   refine draw_begin (vals := [some (.slice A2309 rw2369.length c2310), some (.int .i64 a_2315), some (.int .i64 i2375), some (.int .i64 (w64 (a_2315 + i2375))), some (.slice A2309 rw2369.length c2310), some (.int .i64 b_2316), some (.int .i64 i2375), some (.int .i64 (w64 (b_2316 + i2375))), some (.slice A2309 rw2369.length c2310), some (.int .i64 b_2316), some (.int .i64 i2375), some (.int .i64 (w64 (b_2316 + i2375))), some (slp A2309 (Int.toNat (w64 (b_2316 + i2375)) * 2)), some (.agg ⟨[.int .i64 ((rd data2370 (w64 (b_2316 + i2375))).often_), .slice A2380 ((rd data2370 (w64 (b_2316 + i2375))).symbols_).length c2381]⟩), some (.slice A2309 rw2369.length c2310), some (.int .i64 a_2315), some (.int .i64 i2375), some (.int .i64 (w64 (a_2315 + i2375))), some (slp A2309 (Int.toNat (w64 (a_2315 + i2375)) * 2)), some (.agg ⟨[.int .i64 ((rd data2370 (w64 (a_2315 + i2375))).often_), .slice A2387 ((rd data2370 (w64 (a_2315 + i2375))).symbols_).length c2388]⟩), some (slp A2309 (Int.toNat (w64 (a_2315 + i2375)) * 2)), none, none, none]) hS mixed rfl ?_
   intro l w ho hcl hA hst
   refine phq hA hst ho hcl navail nmust 21 [0, 1, 2, 3, 4, 5, 6, 7, 8, 9, 10, 11, 12, 13, 14, 15, 16, 17, 18, 19, 20] rfl rfl rfl rfl rfl (by exact ⟨nR rfl rfl rfl rfl rfl (by exact ovE (mv rfl) rfl), nR rfl rfl rfl rfl rfl (by exact ovE (mv rfl) rfl), nR rfl rfl rfl rfl rfl (by exact ovE (mv rfl) rfl), nR rfl rfl rfl rfl rfl (by exact ovE (bin rfl rfl rfl) rfl), nR rfl rfl rfl rfl rfl (by exact ovE (mv rfl) rfl), nR rfl rfl rfl rfl rfl (by exact ovE (mv rfl) rfl), nR rfl rfl rfl rfl rfl (by exact ovE (mv rfl) rfl), nR rfl rfl rfl rfl rfl (by exact ovE (bin rfl rfl rfl) rfl), nR rfl rfl rfl rfl rfl (by exact ovE (mv rfl) rfl), nR rfl rfl rfl rfl rfl (by exact ovE (mv rfl) rfl), nR rfl rfl rfl rfl rfl (by exact ovE (mv rfl) rfl), nR rfl rfl rfl rfl rfl (by exact ovE (bin rfl rfl rfl) rfl), nR rfl rfl rfl rfl rfl (by exact ovE (ixV rfl rfl Tryd.runUnderlying110 Tryd.sizeOf112 (hV2372.rd (i := 1) rfl) Row.len rfl (hr2373.inb hk2379)) rfl), nR rfl rfl rfl rfl rfl (by exact ovE (ovE (ldVA rfl (hV2372.rd (i := 1) rfl) Row.len (hr2373.inb hk2379) Tryd.isAgg112 Tryd.sizeOf112 rfl) (congrArg (fun l => Value.agg ⟨l⟩) hw2384)) rfl), nR rfl rfl rfl rfl rfl (by exact ovE (mv rfl) rfl), nR rfl rfl rfl rfl rfl (by exact ovE (mv rfl) rfl), nR rfl rfl rfl rfl rfl (by exact ovE (mv rfl) rfl), nR rfl rfl rfl rfl rfl (by exact ovE (bin rfl rfl rfl) rfl), nR rfl rfl rfl rfl rfl (by exact ovE (ixV rfl rfl Tryd.runUnderlying110 Tryd.sizeOf112 (hV2372.rd (i := 1) rfl) Row.len rfl (hr2373.inb hk2386)) rfl), nR rfl rfl rfl rfl rfl (by exact ovE (ovE (ldVA rfl (hV2372.rd (i := 1) rfl) Row.len (hr2373.inb hk2386) Tryd.isAgg112 Tryd.sizeOf112 rfl) (congrArg (fun l => Value.agg ⟨l⟩) hw2391)) rfl), nR rfl rfl rfl rfl rfl (by exact ovE (ixV rfl rfl Tryd.runUnderlying110 Tryd.sizeOf112 (hV2372.rd (i := 1) rfl) Row.len rfl (hr2373.inb hk2386)) rfl), trivial⟩) fun D l a w ho hcl hav hpre hm hE hk hA hst => ?_
   have hS := (Ss.mk hE hst).env2 (e' := [(29, .agg ⟨[.int .i64 ((rd data2370 (w64 (b_2316 + i2375))).often_), .slice A2380 ((rd data2370 (w64 (b_2316 + i2375))).symbols_).length c2381]⟩), (36, slp A2309 (Int.toNat (w64 (a_2315 + i2375)) * 2))]) ⟨rfl, rfl, trivial⟩
   refine op_of_nth rfl <| stVR (i := (w64 (a_2315 + i2375))) (sz := 2) 1 (⟨[.int .i64 ((rd data2370 (w64 (b_2316 + i2375))).often_), .slice A2380 ((rd data2370 (w64 (b_2316 + i2375))).symbols_).length c2381], by simp, by simp [Value.oneCell']⟩ : Row 2) hS rfl rfl hV2372 rfl Tryd.sizeOf112 rfl (hr2373.inb hk2386) fun rw2398 w f2396 hz hV2397 hS => ?_
   obtain ⟨zs2399, hzm⟩ := nameE (data2370.set (Int.toNat (w64 (a_2315 + i2375))) (T_huff_packet.mk ((rd data2370 (w64 (b_2316 + i2375))).often_) ((rd data2370 (w64 (b_2316 + i2375))).symbols_)))
   replace hM := lt_to hzm hM
   have hr2400 := RelL.set (x := (T_huff_packet.mk ((rd data2370 (w64 (b_2316 + i2375))).often_) ((rd data2370 (w64 (b_2316 + i2375))).symbols_))) (r := (⟨[.int .i64 ((rd data2370 (w64 (b_2316 + i2375))).often_), .slice A2380 ((rd data2370 (w64 (b_2316 + i2375))).symbols_).length c2381], by simp, by simp [Value.oneCell']⟩ : Row 2)) (Int.toNat (w64 (a_2315 + i2375))) hr2373 (show R_huff_packet p2308 _ _ from ⟨A2380, c2381, rfl, hp2382, hc2383⟩)
   have hz2401 : rw2398.length = rw2369.length := by rw [hz]; exact List.length_set ..
   rw [← hz, ← hzm] at hr2400; clear hz hzm
   have hz2402 := Eq.trans hz2401 hz2374
   refine wpList_nil (then_n ?_)
   replace hst := hS.st
   obtain ⟨hk2404, hM⟩ := wp_chk hM
   obtain ⟨hcl, hmust, hav2, hA⟩ := dnN (vals' := [some (.slice A2309 rw2369.length c2310), some (.int .i64 a_2315), some (.int .i64 i2375), some (.int .i64 (w64 (a_2315 + i2375))), some (.slice A2309 rw2369.length c2310), some (.int .i64 b_2316), some (.int .i64 i2375), some (.int .i64 (w64 (b_2316 + i2375))), some (.slice A2309 rw2369.length c2310), some (.int .i64 b_2316), some (.int .i64 i2375), some (.int .i64 (w64 (b_2316 + i2375))), some (slp A2309 (Int.toNat (w64 (b_2316 + i2375)) * 2)), some (.agg ⟨[.int .i64 ((rd data2370 (w64 (b_2316 + i2375))).often_), .slice A2380 ((rd data2370 (w64 (b_2316 + i2375))).symbols_).length c2381]⟩), some (.slice A2309 rw2369.length c2310), some (.int .i64 a_2315), some (.int .i64 i2375), some (.int .i64 (w64 (a_2315 + i2375))), some (slp A2309 (Int.toNat (w64 (a_2315 + i2375)) * 2)), some (.agg ⟨[.int .i64 ((rd data2370 (w64 (a_2315 + i2375))).often_), .slice A2387 ((rd data2370 (w64 (a_2315 + i2375))).symbols_).length c2388]⟩), some (slp A2309 (Int.toNat (w64 (a_2315 + i2375)) * 2)), some undef, some (slp A2309 (Int.toNat (w64 (b_2316 + i2375)) * 2)), none]) 21 [(0, 21), (1, 21), (2, 21), (3, 21), (8, 21), (9, 21), (10, 21), (11, 21), (12, 21), (13, 21), (19, 21), (20, 21), (18, 19), (14, 18), (17, 18), (15, 17), (16, 17)] hA hcl hav hm hpre rfl rfl rfl rfl rfl
   clear hm hav
   refine phq hA hst ho hcl hav2 hmust 23 [4, 5, 6, 7, 22] rfl rfl rfl rfl rfl (by exact ⟨nR rfl rfl rfl rfl rfl (by exact ovE (mv rfl) rfl), nR rfl rfl rfl rfl rfl (by exact ovE (mv rfl) rfl), nR rfl rfl rfl rfl rfl (by exact ovE (mv rfl) rfl), nR rfl rfl rfl rfl rfl (by exact ovE (bin rfl rfl rfl) rfl), nR rfl rfl rfl rfl rfl (by exact ovE (ixV (lenx hz2401 rfl) rfl Tryd.runUnderlying110 Tryd.sizeOf112 (hV2397.rd (i := 1) rfl) Row.len rfl (hr2400.inb hk2404)) rfl), trivial⟩) fun D l a w ho hcl hav hpre hm hE hk hA hst => ?_
   have hS := (Ss.mk hE hst).env2 (e' := [(35, .agg ⟨[.int .i64 ((rd data2370 (w64 (a_2315 + i2375))).often_), .slice A2387 ((rd data2370 (w64 (a_2315 + i2375))).symbols_).length c2388]⟩), (37, slp A2309 (Int.toNat (w64 (b_2316 + i2375)) * 2))]) ⟨rfl, rfl, trivial⟩
   refine op_of_nth rfl <| stVR (i := (w64 (b_2316 + i2375))) (sz := 2) 1 (⟨[.int .i64 ((rd data2370 (w64 (a_2315 + i2375))).often_), .slice A2387 ((rd data2370 (w64 (a_2315 + i2375))).symbols_).length c2388], by simp, by simp [Value.oneCell']⟩ : Row 2) hS rfl rfl hV2397 rfl Tryd.sizeOf112 rfl (hr2400.inb hk2404) fun rw2411 w f2409 hz hV2410 hS => ?_
   obtain ⟨zs2412, hzm⟩ := nameE (zs2399.set (Int.toNat (w64 (b_2316 + i2375))) (T_huff_packet.mk ((rd data2370 (w64 (a_2315 + i2375))).often_) ((rd data2370 (w64 (a_2315 + i2375))).symbols_)))
   replace hM := lt_to hzm hM
   have hr2413 := RelL.set (x := (T_huff_packet.mk ((rd data2370 (w64 (a_2315 + i2375))).often_) ((rd data2370 (w64 (a_2315 + i2375))).symbols_))) (r := (⟨[.int .i64 ((rd data2370 (w64 (a_2315 + i2375))).often_), .slice A2387 ((rd data2370 (w64 (a_2315 + i2375))).symbols_).length c2388], by simp, by simp [Value.oneCell']⟩ : Row 2)) (Int.toNat (w64 (b_2316 + i2375))) hr2400 (show R_huff_packet p2308 _ _ from ⟨A2387, c2388, rfl, hp2389, hc2390⟩)
   have hz2414 : rw2411.length = rw2398.length := by rw [hz]; exact List.length_set ..
   rw [← hz, ← hzm] at hr2413; clear hz hzm
   have hz2415 := Eq.trans hz2414 hz2402
   refine wpList_nil (then_n ?_)
   replace hst := hS.st
   obtain ⟨hcl, hmust, hav2, hA⟩ := dnN (vals' := [some (.slice A2309 rw2369.length c2310), some (.int .i64 a_2315), some (.int .i64 i2375), some (.int .i64 (w64 (a_2315 + i2375))), some (.slice A2309 rw2369.length c2310), some (.int .i64 b_2316), some (.int .i64 i2375), some (.int .i64 (w64 (b_2316 + i2375))), some (.slice A2309 rw2369.length c2310), some (.int .i64 b_2316), some (.int .i64 i2375), some (.int .i64 (w64 (b_2316 + i2375))), some (slp A2309 (Int.toNat (w64 (b_2316 + i2375)) * 2)), some (.agg ⟨[.int .i64 ((rd data2370 (w64 (b_2316 + i2375))).often_), .slice A2380 ((rd data2370 (w64 (b_2316 + i2375))).symbols_).length c2381]⟩), some (.slice A2309 rw2369.length c2310), some (.int .i64 a_2315), some (.int .i64 i2375), some (.int .i64 (w64 (a_2315 + i2375))), some (slp A2309 (Int.toNat (w64 (a_2315 + i2375)) * 2)), some (.agg ⟨[.int .i64 ((rd data2370 (w64 (a_2315 + i2375))).often_), .slice A2387 ((rd data2370 (w64 (a_2315 + i2375))).symbols_).length c2388]⟩), some (slp A2309 (Int.toNat (w64 (a_2315 + i2375)) * 2)), some undef, some (slp A2309 (Int.toNat (w64 (b_2316 + i2375)) * 2)), some undef]) 23 [(0, 23), (1, 23), (2, 23), (3, 23), (4, 23), (5, 23), (6, 23), (7, 23), (8, 23), (9, 23), (10, 23), (11, 23), (12, 23), (13, 23), (14, 23), (15, 23), (16, 23), (17, 23), (18, 23), (19, 23), (20, 23), (21, 23), (22, 23)] hA hcl hav hm hpre rfl rfl rfl rfl rfl
   clear hm hav
   refine phqE hA hst ho hcl hmust [] rfl rfl rfl trivial fun a w hS => ?_
   replace hS := hS.env2 (e' := [(0, .slice A2309 rw2411.length c2310), (1, .int .i64 a_2315), (2, .int .i64 b_2316), (3, .int .i64 n_2317), (10, .int .i64 i2375)]) ⟨(relk (u := .slice A2309 rw2369.length c2310) rfl (by rw [hz2414, hz2401])), rfl, rfl, rfl, rfl, trivial⟩
   refine blk_n (then_n ?_)
   refine wp_region_list <| st1 hS (mv rfl) rfl fun a w hS => st1 hS (bin rfl rfl rfl) rfl fun a w hS => st1x (v := Value.int .i64) (x0 := (w64 (i2375 + (1 : Int)))) hS (asg rfl) rfl fun i2416 a w hz hS => ?_
   have hM := lt_to hz hM; clear hz
   refine wpList_nil <| then_n ?_
   exact hJ2417 _ _ ⟨rw2411, zs2412, f2409, i2416, hS.to [0, 1] (by kernel_rfl) ⟨rfl, rfl, rfl, rfl, rfl, trivial⟩, hV2410, hr2413, hz2415, hM⟩
  ·refine wp_exit ?_
   refine then_ex (then_ex (blk_same ?_))
   exact s_end (rs := []) hS rfl rfl (hret rw2369 data2370 f2371 w (wp_ok hM) hV2372 hr2373 hz2374 (hS.st.pick [0, 1] (by kernel_rfl)))

theorem slices_rotateCmpFunc_huff_packet__b6e1_7e8b_c {H : Imm} {F : List Frag} {w : World} {R : Ending → World → Prop} {kr : (List T_huff_packet) → Prop} {kp : Value → Prop} (hG : Gl H) (K : Nat) (data2287 : List T_huff_packet) (a_2295 : Int) (m2296 : Int) (b_2297 : Int) (p2288 : Frag) (A2289 : Option Addr) (c2290 : Nat) (rw2291 : List (Row 2)) (f2293 : Frag) (hr2292 : RelL (R_huff_packet p2288) data2287 rw2291) (hV2294 : Vec 112 (Row.v (sz := 2)) 2 A2289 rw2291 c2290 f2293)
    (hS : St w H [p2288, f2293] F) (hm : (slices_rotateCmpFunc_huff_packet__b6e1_7e8b.m K data2287 a_2295 m2296 b_2297).wp kr kp)
    (hret : ∀ (rw2491 : List (Row 2)) (data2492 : (List T_huff_packet)) (f2493 : Frag) (w : World), kr data2492 → (Vec 112 (Row.v (sz := 2)) 2 A2289 rw2491 c2290 f2493) → (RelL (R_huff_packet p2288) data2492 rw2491) → (rw2491.length = rw2291.length) → St w H [p2288, f2493] F → R (.returned (.tuple ⟨[]⟩)) w) :
    Calls Tryd.prog 108 ⟨[.slice A2289 rw2291.length c2290, .int .i64 a_2295, .int .i64 m2296, .int .i64 b_2297, fnv 57 [] []]⟩ w R := by
 refine enter Tryd.func108 rfl Tryd.ntmps108 rfl hS fun a w hS => ?_
 have hM := hm; clear hm
 rw [slices_rotateCmpFunc_huff_packet__b6e1_7e8b.m] at hM
 have hs2298 : ∀ q ∈ p2288, q ∈ p2288 := fun _ h => h
 have hz2299 : rw2291.length = rw2291.length := rfl
 refine wp_seq <| wp_region_list <| st1 hS (mv rfl) rfl fun a w hS => st1 hS (mv rfl) rfl fun a w hS => st1 hS (bin rfl rfl rfl) rfl fun a w hS => st1x (v := Value.int .i64) (x0 := (w64 (m2296 - a_2295))) hS (asg rfl) rfl fun i2300 a w hz hS => ?_
 have hM := lt_to hz hM; clear hz
 refine wpList_nil <| then_n <| wp_seq <| wp_region_list <| st1 hS (mv rfl) rfl fun a w hS => st1 hS (mv rfl) rfl fun a w hS => st1 hS (bin rfl rfl rfl) rfl fun a w hS => st1x (v := Value.int .i64) (x0 := (w64 (b_2297 - m2296))) hS (asg rfl) rfl fun j2301 a w hz hS => ?_
 have hM := lt_to hz hM; clear hz
 refine wpList_nil <| then_n <| seq_joinJ (fun a w => ∃ (rw2476 : List (Row 2)) (data2477 : (List T_huff_packet)) (f2478 : Frag) (i2482 : Int), Ss 58 [] [(0, .slice A2289 rw2476.length c2290), (2, .int .i64 m2296), (4, fnv 57 [] []), (10, .int .i64 i2482)] H [p2288, f2478] F a w ∧ (Vec 112 (Row.v (sz := 2)) 2 A2289 rw2476 c2290 f2478) ∧ (RelL (R_huff_packet p2288) data2477 rw2476) ∧ (rw2476.length = rw2291.length) ∧ (slices_rotateCmpFunc_huff_packet__b6e1_7e8b.j2 K m2296 data2477 i2482).wp kr kp) (fun J2483 hJ2483 => ?_) ?_
 ·refine wp_block ?_
  refine s_loopJ (fun k2456 a w => ∃ (rw2448 : List (Row 2)) (data2449 : (List T_huff_packet)) (f2450 : Frag) (i2454 : Int) (j2455 : Int), Ss 58 [] [(0, .slice A2289 rw2448.length c2290), (2, .int .i64 m2296), (4, fnv 57 [] []), (10, .int .i64 i2454), (11, .int .i64 j2455)] H [p2288, f2450] F a w ∧ (Vec 112 (Row.v (sz := 2)) 2 A2289 rw2448 c2290 f2450) ∧ (RelL (R_huff_packet p2288) data2449 rw2448) ∧ (rw2448.length = rw2291.length) ∧ (slices_rotateCmpFunc_huff_packet__b6e1_7e8b.l1 K m2296 k2456 data2449 i2454 j2455).wp kr kp) K ?_ ?_ ?_
  ·exact ⟨rw2291, data2287, f2293, i2300, j2301, hS.to [0, 1] (by kernel_rfl) ⟨rfl, rfl, rfl, rfl, rfl, trivial⟩, hV2294, hr2292, hz2299, hM⟩
  ·intro a w hI; obtain ⟨_, _, _, _, _, _, _, _, _, hM⟩ := hI; exact wp_fail hM
  ·intro k2456 a w hI J2475 hJ2475
   obtain ⟨rw2448, data2449, f2450, i2454, j2455, hS, hV2451, hr2452, hz2453, hM⟩ := hI
   rw [slices_rotateCmpFunc_huff_packet__b6e1_7e8b.l1] at hM
   refine wp_seq <| wp_seq <| wp_region_list <| st1 hS (mv rfl) rfl fun a w hS => st1 hS (mv rfl) rfl fun a w hS => st1 hS (bin rfl rfl rfl) rfl fun a w hS => wpList_nil <| then_n <| s_cond hS rfl hM (fun hb2457 hM => ?_) (fun hb2457 hM => ?_)
   ·refine wp_skip ?_
    refine then_n <| wp_block <| wp_seq <| wp_region_list <| st1 hS (mv rfl) rfl fun a w hS => st1 hS (mv rfl) rfl fun a w hS => st1 hS (bin rfl rfl rfl) rfl fun a w hS => wpList_nil <| then_n <| s_cond hS rfl hM (fun hb2458 hM => ?_) (fun hb2458 hM => ?_)
    ·refine wp_seq ?_
     refine wp_region_list <| st1 hS (mv rfl) rfl fun a w hS => st1 hS (mv rfl) rfl fun a w hS => st1 hS (mv rfl) rfl fun a w hS => st1 hS (bin rfl rfl rfl) rfl fun a w hS => st1 hS (mv rfl) rfl fun a w hS => st1 hS (mv rfl) rfl fun a w hS => st1 hS (mv rfl) rfl fun a w hS => s_call hS rfl Tryd.call109 (slices_swapRangeCmpFunc_huff_packet__b6e1_7e8b_c hG K data2449 (w64 (m2296 - i2454)) m2296 j2455 p2288 A2289 c2290 rw2448 f2450 hr2452 hV2451 (hS.st.part 2 [0, 1] (by kernel_rfl)) (wp_bind hM) (fun rw2459 data2460 f2461 w hM h2462 h2463 h2464 hst => s_back hS.ev hst.appF rfl fun hS => ?_))
     replace hS : Ss _ _ _ H [p2288, f2461] F _ _ := hS
     have hz2465 := Eq.trans h2464 hz2453
     replace hS := hS.re 0 (u := .slice A2289 rw2448.length c2290) (v := .slice A2289 rw2459.length c2290) rfl (by rw [h2464])
     replace hS := hS.re 24 (u := .slice A2289 rw2448.length c2290) (v := .slice A2289 rw2459.length c2290) rfl (by rw [h2464])
     refine wpList_nil <| then_n <| wp_region_list <| st1 hS (mv rfl) rfl fun a w hS => st1 hS (mv rfl) rfl fun a w hS => st1 hS (bin rfl rfl rfl) rfl fun a w hS => st1x (v := Value.int .i64) (x0 := (w64 (i2454 - j2455))) hS (asg rfl) rfl fun i2466 a w hz hS => ?_
     have hM := lt_to hz hM; clear hz
     refine wpList_nil <| blk_n (then_n ?_)
     exact hJ2475 _ _ ⟨rw2459, data2460, f2461, i2466, j2455, hS.to [0, 1] (by kernel_rfl) ⟨rfl, rfl, rfl, rfl, rfl, trivial⟩, h2462, h2463, hz2465, hM⟩
    ·refine wp_seq ?_
     refine wp_region_list <| st1 hS (mv rfl) rfl fun a w hS => st1 hS (mv rfl) rfl fun a w hS => st1 hS (mv rfl) rfl fun a w hS => st1 hS (bin rfl rfl rfl) rfl fun a w hS => st1 hS (mv rfl) rfl fun a w hS => st1 hS (mv rfl) rfl fun a w hS => st1 hS (bin rfl rfl rfl) rfl fun a w hS => st1 hS (mv rfl) rfl fun a w hS => st1 hS (bin rfl rfl rfl) rfl fun a w hS => st1 hS (mv rfl) rfl fun a w hS => st1 hS (mv rfl) rfl fun a w hS => s_call hS rfl Tryd.call109 (slices_swapRangeCmpFunc_huff_packet__b6e1_7e8b_c hG K data2449 (w64 (m2296 - i2454)) (w64 ((w64 (m2296 + j2455)) - i2454)) i2454 p2288 A2289 c2290 rw2448 f2450 hr2452 hV2451 (hS.st.part 2 [0, 1] (by kernel_rfl)) (wp_bind hM) (fun rw2467 data2468 f2469 w hM h2470 h2471 h2472 hst => s_back hS.ev hst.appF rfl fun hS => ?_))
     replace hS : Ss _ _ _ H [p2288, f2469] F _ _ := hS
     have hz2473 := Eq.trans h2472 hz2453
     replace hS := hS.re 0 (u := .slice A2289 rw2448.length c2290) (v := .slice A2289 rw2467.length c2290) rfl (by rw [h2472])
     replace hS := hS.re 35 (u := .slice A2289 rw2448.length c2290) (v := .slice A2289 rw2467.length c2290) rfl (by rw [h2472])
     refine wpList_nil <| then_n <| wp_region_list <| st1 hS (mv rfl) rfl fun a w hS => st1 hS (mv rfl) rfl fun a w hS => st1 hS (bin rfl rfl rfl) rfl fun a w hS => st1x (v := Value.int .i64) (x0 := (w64 (j2455 - i2454))) hS (asg rfl) rfl fun j2474 a w hz hS => ?_
     have hM := lt_to hz hM; clear hz
     refine wpList_nil <| blk_n (then_n ?_)
     exact hJ2475 _ _ ⟨rw2467, data2468, f2469, i2454, j2474, hS.to [0, 1] (by kernel_rfl) ⟨rfl, rfl, rfl, rfl, rfl, trivial⟩, h2470, h2471, hz2473, hM⟩
   ·refine wp_exit ?_
    refine then_ex (then_ex (blk_same (then_n ?_)))
    exact hJ2483 _ _ ⟨rw2448, data2449, f2450, i2454, hS.to [0, 1] (by kernel_rfl) ⟨rfl, rfl, rfl, rfl, trivial⟩, hV2451, hr2452, hz2453, hM⟩
 ·intro a w hI
  obtain ⟨rw2476, data2477, f2478, i2482, hS, hV2479, hr2480, hz2481, hM⟩ := hI
  rw [slices_rotateCmpFunc_huff_packet__b6e1_7e8b.j2] at hM
  refine wp_region_list <| st1 hS (mv rfl) rfl fun a w hS => st1 hS (mv rfl) rfl fun a w hS => st1 hS (mv rfl) rfl fun a w hS => st1 hS (bin rfl rfl rfl) rfl fun a w hS => st1 hS (mv rfl) rfl fun a w hS => st1 hS (mv rfl) rfl fun a w hS => st1 hS (mv rfl) rfl fun a w hS => s_call hS rfl Tryd.call109 (slices_swapRangeCmpFunc_huff_packet__b6e1_7e8b_c hG K data2477 (w64 (m2296 - i2482)) m2296 i2482 p2288 A2289 c2290 rw2476 f2478 hr2480 hV2479 (hS.st.part 2 [0, 1] (by kernel_rfl)) (wp_bind hM) (fun rw2484 data2485 f2486 w hM h2487 h2488 h2489 hst => s_back hS.ev hst.appF rfl fun hS => ?_))
  replace hS : Ss _ _ _ H [p2288, f2486] F _ _ := hS
  have hz2490 := Eq.trans h2489 hz2481
  replace hS := hS.re 0 (u := .slice A2289 rw2476.length c2290) (v := .slice A2289 rw2484.length c2290) rfl (by rw [h2489])
  replace hS := hS.re 50 (u := .slice A2289 rw2476.length c2290) (v := .slice A2289 rw2484.length c2290) rfl (by rw [h2489])
  refine wpList_nil ?_
  exact s_end (rs := []) hS rfl rfl (hret rw2484 data2485 f2486 w (wp_ok hM) h2487 h2488 hz2490 (hS.st.pick [0, 1] (by kernel_rfl)))
end Go.TrydS
