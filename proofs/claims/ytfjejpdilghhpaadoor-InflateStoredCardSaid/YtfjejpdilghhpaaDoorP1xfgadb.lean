/- Printed by a program of mine: each Go function answers what its model answers; conditions: what each theorem asks of memory. -/
import Derived.Test.YtfjejpdilghhpaaDoorMnclel
import Derived.Test.YtfjejpdilghhpaaDoorChecked
set_option linter.unusedVariables false
set_option linter.unusedSimpArgs false
namespace Go.TrydS
open Go Go.Sl Go.Mo Go.Proofs
theorem mixed : Tryd.prog.follows .mixedOrders = true := by kernel_rfl
def _root_.Go.Mo.T_bits_place.cells (x : T_bits_place) : List Value := [.int .i64 x.at_]
def _root_.Go.Mo.T_bits_Reader.cells (x : T_bits_Reader) : List Value := [.int .i64 x.place_.at_, str x.text_]
def _root_.Go.Mo.T_inflate_run.cells (x : T_inflate_run) : List Value := [.int .i64 x.from_, .int .i64 x.bits_]
def _root_.Go.Mo.T_mortiseref05_Reader.cells (x : T_mortiseref05_Reader) : List Value := [str x.S_, .int .i64 x.At_]
theorem X.el3 : El Tryd.prog 3 1 8 := ⟨_, _, Tryd.typeInfo3, rfl, rfl, rfl, rfl⟩
theorem X.el5 : El Tryd.prog 5 1 1 := ⟨_, _, Tryd.typeInfo5, rfl, rfl, rfl, rfl⟩
theorem one_t3 : ∀ x, ∀ u ∈ (ci .i64) x, u.oneCell' = true := fun x u hu => by cases hu with | head => rfl | tail _ h => cases h
theorem one_t5 : ∀ x, ∀ u ∈ (ci .u8) x, u.oneCell' = true := fun x u hu => by cases hu with | head => rfl | tail _ h => cases h
structure Gl (H : Imm) : Prop where
  g0 : ∃ T fr, H 0 = some (.cells ⟨tab_inflate_lengths.flatMap T_inflate_run.cells⟩ T fr)
  g1 : ∃ T fr, H 1 = some (.cells ⟨tab_inflate_distances.flatMap T_inflate_run.cells⟩ T fr)
  g2 : ∃ T fr, H 2 = some (.cells ⟨tab_inflate_order.flatMap (ci .i64)⟩ T fr)

theorem mortiseref05_Writer_Put_c {H : Imm} {F : List Frag} {w : World} {R : Ending → World → Prop} {kr : (Int × (List Int)) → Prop} {kp : Value → Prop} (hG : Gl H) (K : Nat) (w_1 : T_mortiseref05_Writer) (v9 : Int) (n_10 : Int) (b2 : Nat) (f3 : Frag) (A5 : Option Addr) (c6 : Nat) (f7 : Frag) (hB4 : Blk f3 b2 ([.slice A5 w_1.B_.length c6]) 32) (hV8 : Vec 5 (ci .u8) 1 A5 w_1.B_ c6 f7)
    (hS : St w H [f3, f7] F) (hm : (mortiseref05_Writer_Put.m K w_1 v9 n_10).wp kr kp)
    (hret : ∀ (x73 : Int) (A74 : Option Addr) (c75 : Nat) (b_76 : (List Int)) (f77 : Frag) (f79 : Frag) (w : World), kr (x73, b_76) → (Vec 5 (ci .u8) 1 A74 b_76 c75 f77) → (Blk f79 b2 ([.slice A74 b_76.length c75]) 32) → St w H [f79, f77] F → R (.returned (.int .i64 x73)) w) :
    Calls Tryd.prog 12 ⟨[ptr b2 0, .int .u32 v9, .int .i64 n_10]⟩ w R := by
  refine enter Tryd.func12 rfl Tryd.ntmps12 rfl hS fun a w hS => ?_
  have hM := hm; clear hm
  rw [mortiseref05_Writer_Put.m] at hM
  refine wp_seq ?_
  refine wp_region_list ?_
  refine st1 hS (asg rfl) rfl fun a w hS => ?_
  refine wpList_nil ?_
  refine then_n ?_
  refine wp_seq ?_
  refine wp_seq ?_
  refine wp_region_list ?_
  refine st1 hS (mv rfl) rfl fun a w hS => ?_
  refine st1 hS (bin rfl rfl rfl) rfl fun a w hS => ?_
  refine st1 hS (mv rfl) rfl fun a w hS => ?_
  refine g_op 2 false 10 (b := (decide (n_10 < (0 : Int)))) (r := (decide (n_10 > (32 : Int)))) hS rfl rfl rfl rfl rfl rfl rfl (fun hb a w hS K hK => ?_) rfl fun a w hS => ?_
  · refine st1g hS rfl rfl rfl hb (mv rfl) rfl fun a w hS => ?_
    refine st1g hS rfl rfl rfl hb (bin rfl rfl rfl) rfl fun a w hS => ?_
    exact wpList_nil (hK _ _ (hS.up 2 rfl rfl))
  refine st1 hS (mv rfl) rfl fun a w hS => ?_
  refine seg_cutJ (fun a w => ∃ (v17 : Bool), Ss 44 [] [(0, ptr b2 0), (1, .int .u32 v9), (2, .int .i64 n_10), (24, .bool v17)] H [f3, f7] F a w ∧ (mortiseref05_Writer_Put.j2 K w_1 v9 n_10 v17).wp kr kp) 10 (fun J18 hJ18 => ?_) ?_
  · refine ifB (b := ((decide (n_10 < (0 : Int))) || (decide (n_10 > (32 : Int))))) hM (fun hb11 hM => ?_) (fun hb11 hM => ?_)
    · replace hS := hS.re 13 (v := .bool true) rfl (congrArg Value.bool hb11)
      replace hS := hS.re 14 (v := .bool true) rfl (congrArg Value.bool hb11)
      refine skips 9 hS rfl fun a w hS => ?_
      refine st1 hS (pk rfl rfl rfl) rfl fun a w hS => ?_
      refine wpList_nil ?_
      refine then_n ?_
      exact hJ18 _ _ ⟨true, hS.to [0, 1] (by kernel_rfl) ⟨rfl, rfl, rfl, rfl, trivial⟩, hM⟩
    · replace hS := hS.re 13 (v := .bool false) rfl (congrArg Value.bool hb11)
      replace hS := hS.re 14 (v := .bool false) rfl (congrArg Value.bool hb11)
      refine st1g hS rfl rfl rfl rfl (mv rfl) rfl fun a w hS => ?_
      refine st1g hS rfl rfl rfl rfl (bin rfl rfl rfl) rfl fun a w hS => ?_
      refine st1g hS rfl rfl rfl rfl (mv rfl) rfl fun a w hS => ?_
      refine seg_cutJ (fun a w => ∃ (v15 : Bool), Ss 44 [] [(0, ptr b2 0), (1, .int .u32 v9), (2, .int .i64 n_10), (14, .bool false), (23, .bool v15)] H [f3, f7] F a w ∧ (mortiseref05_Writer_Put.j1 K w_1 v9 n_10 v15).wp kr kp) 6 (fun J16 hJ16 => ?_) ?_
      · refine ifB (b := (decide (n_10 < (32 : Int)))) hM (fun hb12 hM => ?_) (fun hb12 hM => ?_)
        · replace hS := hS.re 16 (v := .bool true) rfl (congrArg Value.bool hb12)
          replace hS := hS.re 17 (v := .bool true) rfl (congrArg Value.bool hb12)
          refine st1g hS rfl rfl rfl rfl (mv rfl) rfl fun a w hS => ?_
          refine st1g hS rfl rfl rfl rfl (mv rfl) rfl fun a w hS => ?_
          refine st1g hS rfl rfl rfl rfl (cvi rfl Tryd.runUnderlying3 Tryd.runUnderlying37) rfl fun a w hS => ?_
          obtain ⟨hk14, hM⟩ := wp_chk hM
          refine st1g hS rfl rfl rfl rfl (shl rfl rfl hk14) rfl fun a w hS => ?_
          refine st1g hS rfl rfl rfl rfl (bin rfl rfl rfl) rfl fun a w hS => ?_
          refine st1g hS rfl rfl rfl rfl (pk rfl rfl rfl) rfl fun a w hS => ?_
          refine wpList_nil ?_
          refine then_n ?_
          exact hJ16 _ _ ⟨(decide (v9 ≥ (ishl .u32 (1 : Int) (wr .u64 n_10)))), hS.to [0, 1] (by kernel_rfl) ⟨rfl, rfl, rfl, rfl, rfl, trivial⟩, hM⟩
        · replace hS := hS.re 16 (v := .bool false) rfl (congrArg Value.bool hb12)
          replace hS := hS.re 17 (v := .bool false) rfl (congrArg Value.bool hb12)
          refine skips 5 hS rfl fun a w hS => ?_
          refine st1g hS rfl rfl rfl rfl (pk rfl rfl rfl) rfl fun a w hS => ?_
          refine wpList_nil ?_
          refine then_n ?_
          exact hJ16 _ _ ⟨false, hS.to [0, 1] (by kernel_rfl) ⟨rfl, rfl, rfl, rfl, rfl, trivial⟩, hM⟩
      · intro a w hI
        obtain ⟨v15, hS, hM⟩ := hI
        rw [mortiseref05_Writer_Put.j1] at hM
        refine st1 hS (pk rfl rfl rfl) rfl fun a w hS => ?_
        refine wpList_nil ?_
        refine then_n ?_
        exact hJ18 _ _ ⟨v15, hS.to [0, 1] (by kernel_rfl) ⟨rfl, rfl, rfl, rfl, trivial⟩, hM⟩
  · intro a w hI
    obtain ⟨v17, hS, hM⟩ := hI
    rw [mortiseref05_Writer_Put.j2] at hM
    refine wpList_nil ?_
    refine then_n ?_
    refine s_cond hS rfl hM (fun hb19 hM => ?_) (fun hb19 hM => ?_)
    · refine wp_seq ?_
      refine wp_region_list ?_
      refine st1 hS (asg rfl) rfl fun a w hS => ?_
      refine wpList_nil ?_
      refine then_n ?_
      refine wp_ret ?_
      refine then_ret ?_
      exact s_ret (rs := [6]) hS rfl rfl (hret (1 : Int) A5 c6 w_1.B_ f7 f3 w hM hV8 hB4 (hS.st.pick [0, 1] (by kernel_rfl)))
    · refine wp_skip ?_
      refine then_n ?_
      refine wp_seq ?_
      refine wp_seq ?_
      refine wp_region_list ?_
      refine st1 hS (asg rfl) rfl fun a w hS => ?_
      refine wpList_nil ?_
      refine then_n ?_
      refine wp_block ?_
      refine s_loopJ (fun k56 a w => ∃ (A47 : Option Addr) (c48 : Nat) (b_49 : (List Int)) (f50 : Frag) (f52 : Frag) (v54 : Int) (i55 : Int), Ss 44 [] [(0, ptr b2 0), (1, .int .u32 v54), (2, .int .i64 n_10), (7, .int .i64 i55)] H [f52, f50] F a w ∧ (Vec 5 (ci .u8) 1 A47 b_49 c48 f50) ∧ (Blk f52 b2 ([.slice A47 b_49.length c48]) 32) ∧ (mortiseref05_Writer_Put.l3 K n_10 k56 b_49 v54 i55).wp kr kp) K ?_ ?_ ?_
      · exact ⟨A5, c6, w_1.B_, f7, f3, v9, (0 : Int), hS.to [0, 1] (by kernel_rfl) ⟨rfl, rfl, rfl, rfl, trivial⟩, hV8, hB4, hM⟩
      · intro a w hI; obtain ⟨_, _, _, _, _, _, _, _, _, _, hM⟩ := hI; exact hM
      · intro k56 a w hI J72 hJ72
        obtain ⟨A47, c48, b_49, f50, f52, v54, i55, hS, hV51, hB53, hM⟩ := hI
        rw [mortiseref05_Writer_Put.l3] at hM
        refine wp_seq ?_
        refine wp_seq ?_
        refine wp_region_list ?_
        refine st1 hS (mv rfl) rfl fun a w hS => ?_
        refine st1 hS (mv rfl) rfl fun a w hS => ?_
        refine st1 hS (bin rfl rfl rfl) rfl fun a w hS => ?_
        refine wpList_nil ?_
        refine then_n ?_
        refine s_cond hS rfl hM (fun hb57 hM => ?_) (fun hb57 hM => ?_)
        · refine wp_skip ?_
          refine then_n ?_
          refine wp_seq ?_
          refine wp_block ?_
          refine wp_seq ?_
          refine wp_region_list ?_
          refine st1 hS (mv rfl) rfl fun a w hS => ?_
          refine st1 hS (mv rfl) rfl fun a w hS => ?_
          refine st1 hS (nck rfl) rfl fun a w hS => ?_
          refine st1 hS (fad rfl Tryd.runUnderlying32 rfl Tryd.sizeOf30 rfl) rfl fun a w hS => ?_
          refine st1 hS (ldb 0 rfl hB53 rfl rfl Tryd.isAgg30) rfl fun a w hS => ?_
          refine st1 hS (mv rfl) rfl fun a w hS => ?_
          refine st1 hS (rem rfl rfl rfl) rfl fun a w hS => ?_
          refine st1 hS (cvi rfl Tryd.runUnderlying33 Tryd.runUnderlying5) rfl fun a w hS => ?_
          refine bsl (g := (ci .u8)) ([(wr .u8 (irem v54 (2 : Int)))] : List Int) [.int .u8 (wr .u8 (irem v54 (2 : Int)))] hS Tryd.runUnderlying30 Tryd.sizeOf5 X.el5 rfl rfl rfl (by simp [Value.cells]) rfl rfl rfl rfl rfl fun w A58 c59 f60 hV61 hS => ?_
          obtain ⟨hk62, hM⟩ := wp_chk hM
          refine apV (ys := ([(wr .u8 (irem v54 (2 : Int)))] : List Int)) 2 hS rfl rfl hV51 rfl (hV61.rd (i := 0) rfl) Tryd.runUnderlying30 Tryd.runUnderlying30 X.el5 (fun _ => rfl) rfl one_t5 hk62 rfl fun zs67 w A63 c64 f65 hz hV66 hS => ?_
          have hM := lt_to hz hM; clear hz
          refine st1 hS (nck rfl) rfl fun a w hS => ?_
          refine st1 hS (fad rfl Tryd.runUnderlying32 rfl Tryd.sizeOf30 rfl) rfl fun a w hS => ?_
          refine sto 1 ([.slice A63 zs67.length c64]) hS rfl rfl hB53 rfl rfl rfl rfl Tryd.sizeOf30 fun w f68 hB69 hS => ?_
          refine wpList_nil ?_
          refine then_n ?_
          refine wp_region_list ?_
          refine st1 hS (mv rfl) rfl fun a w hS => ?_
          refine st1 hS (quo rfl rfl rfl) rfl fun a w hS => ?_
          refine st1x (v := Value.int .u32) hS (asg rfl) rfl fun v70 a w hz hS => ?_
          have hM := lt_to hz hM; clear hz
          refine wpList_nil ?_
          refine blk_n (then_n ?_)
          refine wp_region_list ?_
          refine st1 hS (mv rfl) rfl fun a w hS => ?_
          refine st1 hS (bin rfl rfl rfl) rfl fun a w hS => ?_
          refine st1x (v := Value.int .i64) hS (asg rfl) rfl fun i71 a w hz hS => ?_
          have hM := lt_to hz hM; clear hz
          refine wpList_nil ?_
          refine then_n ?_
          exact hJ72 _ _ ⟨A63, c64, zs67, f65, f68, v70, i71, hS.to [1, 2] (by kernel_rfl) ⟨rfl, rfl, rfl, rfl, trivial⟩, hV66, hB69, hM⟩
        · refine wp_exit ?_
          refine then_ex (then_ex (blk_same (then_n ?_)))
          refine wp_seq ?_
          refine wp_region_list ?_
          refine st1 hS (asg rfl) rfl fun a w hS => ?_
          refine wpList_nil ?_
          refine then_n ?_
          refine wp_ret ?_
          exact s_ret (rs := [6]) hS rfl rfl (hret (0 : Int) A47 c48 b_49 f50 f52 w hM hV51 hB53 (hS.st.pick [0, 1] (by kernel_rfl)))

theorem mortiseref05_Writer_Align_c {H : Imm} {F : List Frag} {w : World} {R : Ending → World → Prop} {kr : (List Int) → Prop} {kp : Value → Prop} (hG : Gl H) (K : Nat) (w_81 : T_mortiseref05_Writer) (b82 : Nat) (f83 : Frag) (A85 : Option Addr) (c86 : Nat) (f87 : Frag) (hB84 : Blk f83 b82 ([.slice A85 w_81.B_.length c86]) 32) (hV88 : Vec 5 (ci .u8) 1 A85 w_81.B_ c86 f87)
    (hS : St w H [f83, f87] F) (hm : (mortiseref05_Writer_Align.m K w_81).wp kr kp)
    (hret : ∀ (A132 : Option Addr) (c133 : Nat) (b_134 : (List Int)) (f135 : Frag) (f137 : Frag) (w : World), kr b_134 → (Vec 5 (ci .u8) 1 A132 b_134 c133 f135) → (Blk f137 b82 ([.slice A132 b_134.length c133]) 32) → St w H [f137, f135] F → R (.returned (.tuple ⟨[]⟩)) w) :
    Calls Tryd.prog 13 ⟨[ptr b82 0]⟩ w R := by
  refine enter Tryd.func13 rfl Tryd.ntmps13 rfl hS fun a w hS => ?_
  have hM := hm; clear hm
  rw [mortiseref05_Writer_Align.m] at hM
  refine wp_block ?_
  refine s_loopJ (fun k117 a w => ∃ (A110 : Option Addr) (c111 : Nat) (b_112 : (List Int)) (f113 : Frag) (f115 : Frag), Ss 18 [] [(0, ptr b82 0)] H [f115, f113] F a w ∧ (Vec 5 (ci .u8) 1 A110 b_112 c111 f113) ∧ (Blk f115 b82 ([.slice A110 b_112.length c111]) 32) ∧ (mortiseref05_Writer_Align.l1 K k117 b_112).wp kr kp) K ?_ ?_ ?_
  · exact ⟨A85, c86, w_81.B_, f87, f83, hS.to [0, 1] (by kernel_rfl) ⟨rfl, trivial⟩, hV88, hB84, hM⟩
  · intro a w hI; obtain ⟨_, _, _, _, _, _, _, _, hM⟩ := hI; exact hM
  · intro k117 a w hI J131 hJ131
    obtain ⟨A110, c111, b_112, f113, f115, hS, hV114, hB116, hM⟩ := hI
    rw [mortiseref05_Writer_Align.l1] at hM
    refine wp_seq ?_
    refine wp_seq ?_
    refine wp_region_list ?_
    refine st1 hS (mv rfl) rfl fun a w hS => ?_
    refine st1 hS (nck rfl) rfl fun a w hS => ?_
    refine st1 hS (fad rfl Tryd.runUnderlying32 rfl Tryd.sizeOf30 rfl) rfl fun a w hS => ?_
    refine st1 hS (ldb 0 rfl hB116 rfl rfl Tryd.isAgg30) rfl fun a w hS => ?_
    refine st1 hS (lenV rfl Tryd.runUnderlying30) rfl fun a w hS => ?_
    refine st1 hS (rem rfl rfl rfl) rfl fun a w hS => ?_
    refine st1 hS (bin rfl rfl rfl) rfl fun a w hS => ?_
    refine wpList_nil ?_
    refine then_n ?_
    refine s_cond hS rfl hM (fun hb118 hM => ?_) (fun hb118 hM => ?_)
    · refine wp_skip ?_
      refine then_n ?_
      refine wp_block ?_
      refine wp_region_list ?_
      refine st1 hS (mv rfl) rfl fun a w hS => ?_
      refine st1 hS (mv rfl) rfl fun a w hS => ?_
      refine st1 hS (nck rfl) rfl fun a w hS => ?_
      refine st1 hS (fad rfl Tryd.runUnderlying32 rfl Tryd.sizeOf30 rfl) rfl fun a w hS => ?_
      refine st1 hS (ldb 0 rfl hB116 rfl rfl Tryd.isAgg30) rfl fun a w hS => ?_
      refine bsl (g := (ci .u8)) ([(0 : Int)] : List Int) [.int .u8 (0 : Int)] hS Tryd.runUnderlying30 Tryd.sizeOf5 X.el5 rfl rfl rfl (by simp [Value.cells]) rfl rfl rfl rfl rfl fun w A119 c120 f121 hV122 hS => ?_
      obtain ⟨hk123, hM⟩ := wp_chk hM
      refine apV (ys := ([(0 : Int)] : List Int)) 2 hS rfl rfl hV114 rfl (hV122.rd (i := 0) rfl) Tryd.runUnderlying30 Tryd.runUnderlying30 X.el5 (fun _ => rfl) rfl one_t5 hk123 rfl fun zs128 w A124 c125 f126 hz hV127 hS => ?_
      have hM := lt_to hz hM; clear hz
      refine st1 hS (nck rfl) rfl fun a w hS => ?_
      refine st1 hS (fad rfl Tryd.runUnderlying32 rfl Tryd.sizeOf30 rfl) rfl fun a w hS => ?_
      refine sto 1 ([.slice A124 zs128.length c125]) hS rfl rfl hB116 rfl rfl rfl rfl Tryd.sizeOf30 fun w f129 hB130 hS => ?_
      refine wpList_nil ?_
      refine blk_n (then_n ?_)
      exact hJ131 _ _ ⟨A124, c125, zs128, f126, f129, hS.to [1, 2] (by kernel_rfl) ⟨rfl, trivial⟩, hV127, hB130, hM⟩
    · refine wp_exit ?_
      refine then_ex (then_ex (blk_same ?_))
      exact s_end (rs := []) hS rfl rfl (hret A110 c111 b_112 f113 f115 w hM hV114 hB116 (hS.st.pick [0, 1] (by kernel_rfl)))

theorem mortiseref05_Writer_Add_c {H : Imm} {F : List Frag} {w : World} {R : Ending → World → Prop} {kr : (List Int) → Prop} {kp : Value → Prop} (hG : Gl H) (K : Nat) (w_139 : T_mortiseref05_Writer) (s147 : List UInt8) (b140 : Nat) (f141 : Frag) (A143 : Option Addr) (c144 : Nat) (f145 : Frag) (hB142 : Blk f141 b140 ([.slice A143 w_139.B_.length c144]) 32) (hV146 : Vec 5 (ci .u8) 1 A143 w_139.B_ c144 f145)
    (hS : St w H [f141, f145] F) (hm : (mortiseref05_Writer_Add.m K w_139 s147).wp kr kp)
    (hret : ∀ (A197 : Option Addr) (c198 : Nat) (b_199 : (List Int)) (f200 : Frag) (f202 : Frag) (w : World), kr b_199 → (Vec 5 (ci .u8) 1 A197 b_199 c198 f200) → (Blk f202 b140 ([.slice A197 b_199.length c198]) 32) → St w H [f202, f200] F → R (.returned (.tuple ⟨[]⟩)) w) :
    Calls Tryd.prog 14 ⟨[ptr b140 0, str s147]⟩ w R := by
  refine enter Tryd.func14 rfl Tryd.ntmps14 rfl hS fun a w hS => ?_
  have hM := hm; clear hm
  rw [mortiseref05_Writer_Add.m] at hM
  refine wp_seq ?_
  refine wp_region_list ?_
  refine st1 hS (mv rfl) rfl fun a w hS => ?_
  refine s_call hS rfl Tryd.call13 (mortiseref05_Writer_Align_c hG K w_139 b140 f141 A143 c144 f145 hB142 hV146 (hS.st.part 2 [0, 1] (by kernel_rfl)) (wp_bind hM) (fun A148 c149 b_150 f151 f152 w hM h153 h154 hst => s_back hS.ev hst.appF rfl fun hS => ?_))
  replace hS : Ss _ _ _ H [f152, f151] F _ _ := hS
  refine wpList_nil ?_
  refine then_n ?_
  refine wp_seq ?_
  refine wp_region_list ?_
  refine st1 hS (asg rfl) rfl fun a w hS => ?_
  refine wpList_nil ?_
  refine then_n ?_
  refine wp_block ?_
  refine s_loopJ (fun k184 a w => ∃ (A176 : Option Addr) (c177 : Nat) (b_178 : (List Int)) (f179 : Frag) (f181 : Frag) (i183 : Int), Ss 19 [] [(0, ptr b140 0), (1, str s147), (4, .int .i64 i183)] H [f181, f179] F a w ∧ (Vec 5 (ci .u8) 1 A176 b_178 c177 f179) ∧ (Blk f181 b140 ([.slice A176 b_178.length c177]) 32) ∧ (mortiseref05_Writer_Add.l1 K s147 k184 b_178 i183).wp kr kp) K ?_ ?_ ?_
  · exact ⟨A148, c149, b_150, f151, f152, (0 : Int), hS.to [0, 1] (by kernel_rfl) ⟨rfl, rfl, rfl, trivial⟩, h153, h154, hM⟩
  · intro a w hI; obtain ⟨_, _, _, _, _, _, _, _, _, hM⟩ := hI; exact hM
  · intro k184 a w hI J196 hJ196
    obtain ⟨A176, c177, b_178, f179, f181, i183, hS, hV180, hB182, hM⟩ := hI
    rw [mortiseref05_Writer_Add.l1] at hM
    refine wp_seq ?_
    refine wp_seq ?_
    refine wp_region_list ?_
    refine st1 hS (mv rfl) rfl fun a w hS => ?_
    refine st1 hS (mv rfl) rfl fun a w hS => ?_
    refine st1 hS (lenS rfl Tryd.runUnderlying9) rfl fun a w hS => ?_
    refine st1 hS (bin rfl rfl rfl) rfl fun a w hS => ?_
    refine wpList_nil ?_
    refine then_n ?_
    refine s_cond hS rfl hM (fun hb185 hM => ?_) (fun hb185 hM => ?_)
    · refine wp_skip ?_
      refine then_n ?_
      refine wp_seq ?_
      refine wp_block ?_
      refine wp_region_list ?_
      refine st1 hS (mv rfl) rfl fun a w hS => ?_
      refine st1 hS (mv rfl) rfl fun a w hS => ?_
      refine st1 hS (mv rfl) rfl fun a w hS => ?_
      obtain ⟨hk186, hM⟩ := wp_chk hM
      refine st1 hS (ixs rfl rfl Tryd.runUnderlying9 hk186) rfl fun a w hS => ?_
      refine st1 hS (cvi rfl Tryd.runUnderlying5 Tryd.runUnderlying33) rfl fun a w hS => ?_
      refine s_call hS rfl Tryd.call12 (mortiseref05_Writer_Put_c hG K (T_mortiseref05_Writer.mk b_178) (wr .u32 ((rd s147 i183).toNat : Int)) (8 : Int) b140 f181 A176 c177 f179 hB182 hV180 (hS.st.part 2 [0, 1] (by kernel_rfl)) (wp_bind hM) (fun x187 A188 c189 b_190 f191 f192 w hM h193 h194 hst => s_back hS.ev hst.appF rfl fun hS => ?_))
      replace hS : Ss _ _ _ H [f192, f191] F _ _ := hS
      refine wpList_nil ?_
      refine blk_n (then_n ?_)
      refine wp_region_list ?_
      refine st1 hS (mv rfl) rfl fun a w hS => ?_
      refine st1 hS (bin rfl rfl rfl) rfl fun a w hS => ?_
      refine st1x (v := Value.int .i64) hS (asg rfl) rfl fun i195 a w hz hS => ?_
      have hM := lt_to hz hM; clear hz
      refine wpList_nil ?_
      refine then_n ?_
      exact hJ196 _ _ ⟨A188, c189, b_190, f191, f192, i195, hS.to [0, 1] (by kernel_rfl) ⟨rfl, rfl, rfl, trivial⟩, h193, h194, hM⟩
    · refine wp_exit ?_
      refine then_ex (then_ex (blk_same ?_))
      exact s_end (rs := []) hS rfl rfl (hret A176 c177 b_178 f179 f181 w hM hV180 hB182 (hS.st.pick [0, 1] (by kernel_rfl)))

theorem mortiseref05_Writer_String_c {H : Imm} {F : List Frag} {w : World} {R : Ending → World → Prop} {kr : (List UInt8) → Prop} {kp : Value → Prop} (hG : Gl H) (K : Nat) (w_204 : T_mortiseref05_Writer) (b205 : Nat) (f206 : Frag) (A208 : Option Addr) (c209 : Nat) (f210 : Frag) (hB207 : Blk f206 b205 ([.slice A208 w_204.B_.length c209]) 32) (hV211 : Vec 5 (ci .u8) 1 A208 w_204.B_ c209 f210)
    (hS : St w H [f206, f210] F) (hm : (mortiseref05_Writer_String.m K w_204).wp kr kp)
    (hret : ∀ (x256 : List UInt8) (w : World), kr x256 → St w H [f206, f210] F → R (.returned (str x256)) w) :
    Calls Tryd.prog 15 ⟨[ptr b205 0]⟩ w R := by
  refine enter Tryd.func15 rfl Tryd.ntmps15 rfl hS fun a w hS => ?_
  have hM := hm; clear hm
  rw [mortiseref05_Writer_String.m] at hM
  refine wp_seq ?_
  refine wp_region_list ?_
  refine st1 hS (asg rfl) rfl fun a w hS => ?_
  refine wpList_nil ?_
  refine then_n ?_
  refine wp_seq ?_
  refine wp_region_list ?_
  refine st1 hS (mv rfl) rfl fun a w hS => ?_
  refine st1 hS (nck rfl) rfl fun a w hS => ?_
  refine st1 hS (fad rfl Tryd.runUnderlying32 rfl Tryd.sizeOf30 rfl) rfl fun a w hS => ?_
  refine st1 hS (ldb 0 rfl hB207 rfl rfl Tryd.isAgg30) rfl fun a w hS => ?_
  refine st1 hS (lenV rfl Tryd.runUnderlying30) rfl fun a w hS => ?_
  refine st1 hS (bin rfl rfl rfl) rfl fun a w hS => ?_
  refine st1 hS (quo rfl rfl rfl) rfl fun a w hS => ?_
  obtain ⟨hk212, hM⟩ := wp_chk hM
  refine mkS (g := (ci .u8)) (0 : Int) hS rfl rfl (by simp) Tryd.runUnderlying30 X.el5 (fun w => ⟨_, Tryd.zeroValue5 w, rfl⟩) (fun _ => rfl) rfl rfl hk212 rfl fun zs217 w A213 c214 f215 hz hV216 hS => ?_
  have hM := lt_to hz hM; clear hz
  refine st1 hS (asg rfl) rfl fun a w hS => ?_
  refine wpList_nil ?_
  refine then_n ?_
  refine wp_seq ?_
  refine wp_seq ?_
  refine wp_region_list ?_
  refine st1 hS (asg rfl) rfl fun a w hS => ?_
  refine wpList_nil ?_
  refine then_n ?_
  refine wp_block ?_
  refine s_loopJ (fun k241 a w => ∃ (out237 : (List Int)) (f238 : Frag) (i240 : Int), Ss 45 [] [(0, ptr b205 0), (3, .slice A213 out237.length c214), (4, .int .i64 i240)] H [f206, f210, f238] F a w ∧ (Vec 5 (ci .u8) 1 A213 out237 c214 f238) ∧ (mortiseref05_Writer_String.l1 K w_204 k241 out237 i240).wp kr kp) K ?_ ?_ ?_
  · exact ⟨zs217, f215, (0 : Int), hS.to [1, 2, 0] (by kernel_rfl) ⟨rfl, rfl, rfl, trivial⟩, hV216, hM⟩
  · intro a w hI; obtain ⟨_, _, _, _, _, hM⟩ := hI; exact hM
  · intro k241 a w hI J255 hJ255
    obtain ⟨out237, f238, i240, hS, hV239, hM⟩ := hI
    rw [mortiseref05_Writer_String.l1] at hM
    refine wp_seq ?_
    refine wp_seq ?_
    refine wp_region_list ?_
    refine st1 hS (mv rfl) rfl fun a w hS => ?_
    refine st1 hS (mv rfl) rfl fun a w hS => ?_
    refine st1 hS (nck rfl) rfl fun a w hS => ?_
    refine st1 hS (fad rfl Tryd.runUnderlying32 rfl Tryd.sizeOf30 rfl) rfl fun a w hS => ?_
    refine st1 hS (ldb 0 rfl hB207 rfl rfl Tryd.isAgg30) rfl fun a w hS => ?_
    refine st1 hS (lenV rfl Tryd.runUnderlying30) rfl fun a w hS => ?_
    refine st1 hS (bin rfl rfl rfl) rfl fun a w hS => ?_
    refine wpList_nil ?_
    refine then_n ?_
    refine s_cond hS rfl hM (fun hb242 hM => ?_) (fun hb242 hM => ?_)
    · refine wp_skip ?_
      refine then_n ?_
      refine wp_seq ?_
      refine wp_block ?_
      obtain ⟨hk245, hM⟩ := wp_chk hM
      obtain ⟨hk247, hM⟩ := wp_chk hM
      obtain ⟨hk249, hM⟩ := wp_chk hM
      refine draw_begin (vals := [some (.slice A213 out237.length c214), some (.int .i64 i240), some (.int .i64 (iquo .i64 i240 (8 : Int))), some (.slice A213 out237.length c214), some (.int .i64 i240), some (.int .i64 (iquo .i64 i240 (8 : Int))), some (slp A213 (Int.toNat (iquo .i64 i240 (8 : Int)) * 1)), some (.int .u8 (rd out237 (iquo .i64 i240 (8 : Int)))), some (ptr b205 0), some (ptr b205 0), some (ptr b205 0), some (.slice A208 w_204.B_.length c209), some (.int .i64 i240), some (slp A208 (Int.toNat i240 * 1)), some (.int .u8 (rd w_204.B_ i240)), some (.int .i64 i240), some (.int .i64 (irem i240 (8 : Int))), some (.int .u64 (wr .u64 (irem i240 (8 : Int)))), some (.int .u8 (ishl .u8 (rd w_204.B_ i240) (wr .u64 (irem i240 (8 : Int))))), some (.int .u8 (wr .u8 ((rd out237 (iquo .i64 i240 (8 : Int))) + (ishl .u8 (rd w_204.B_ i240) (wr .u64 (irem i240 (8 : Int))))))), some (slp A213 (Int.toNat (iquo .i64 i240 (8 : Int)) * 1)), none]) hS mixed rfl ?_
      intro l w ho hcl hA hst
      refine phase' (vals := [some (.slice A213 out237.length c214), some (.int .i64 i240), some (.int .i64 (iquo .i64 i240 (8 : Int))), some (.slice A213 out237.length c214), some (.int .i64 i240), some (.int .i64 (iquo .i64 i240 (8 : Int))), some (slp A213 (Int.toNat (iquo .i64 i240 (8 : Int)) * 1)), some (.int .u8 (rd out237 (iquo .i64 i240 (8 : Int)))), some (ptr b205 0), some (ptr b205 0), some (ptr b205 0), some (.slice A208 w_204.B_.length c209), some (.int .i64 i240), some (slp A208 (Int.toNat i240 * 1)), some (.int .u8 (rd w_204.B_ i240)), some (.int .i64 i240), some (.int .i64 (irem i240 (8 : Int))), some (.int .u64 (wr .u64 (irem i240 (8 : Int)))), some (.int .u8 (ishl .u8 (rd w_204.B_ i240) (wr .u64 (irem i240 (8 : Int))))), some (.int .u8 (wr .u8 ((rd out237 (iquo .i64 i240 (8 : Int))) + (ishl .u8 (rd w_204.B_ i240) (wr .u64 (irem i240 (8 : Int))))))), some (slp A213 (Int.toNat (iquo .i64 i240 (8 : Int)) * 1)), none]) 21 [] [0, 1, 2, 3, 4, 5, 6, 7, 8, 9, 10, 11, 12, 13, 14, 15, 16, 17, 18, 19, 20] rfl rfl rfl rfl (by exact ⟨nR rfl rfl rfl rfl rfl (by exact ovE (mv rfl) rfl), nR rfl rfl rfl rfl rfl (by exact ovE (mv rfl) rfl), nR rfl rfl rfl rfl rfl (by exact ovE (quo rfl rfl rfl) rfl), nR rfl rfl rfl rfl rfl (by exact ovE (mv rfl) rfl), nR rfl rfl rfl rfl rfl (by exact ovE (mv rfl) rfl), nR rfl rfl rfl rfl rfl (by exact ovE (quo rfl rfl rfl) rfl), nR rfl rfl rfl rfl rfl (by exact ovE (ixV rfl rfl Tryd.runUnderlying30 Tryd.sizeOf5 (hV239.rd (i := 2) rfl) (fun _ => rfl) rfl hk245) rfl), nR rfl rfl rfl rfl rfl (by exact ovE (ldV0 rfl (hV239.rd (i := 2) rfl) (fun _ => rfl) hk245 rfl Tryd.isAgg5) rfl), nR rfl rfl rfl rfl rfl (by exact ovE (mv rfl) rfl), nR rfl rfl rfl rfl rfl (by exact ovE (nck rfl) rfl), nR rfl rfl rfl rfl rfl (by exact ovE (fad rfl Tryd.runUnderlying32 rfl Tryd.sizeOf30 rfl) rfl), nR rfl rfl rfl rfl rfl (by exact ovE (ldb 0 rfl hB207 rfl rfl Tryd.isAgg30) rfl), nR rfl rfl rfl rfl rfl (by exact ovE (mv rfl) rfl), nR rfl rfl rfl rfl rfl (by exact ovE (ixV rfl rfl Tryd.runUnderlying30 Tryd.sizeOf5 (hV211.rd (i := 1) rfl) (fun _ => rfl) rfl hk247) rfl), nR rfl rfl rfl rfl rfl (by exact ovE (ldV0 rfl (hV211.rd (i := 1) rfl) (fun _ => rfl) hk247 rfl Tryd.isAgg5) rfl), nR rfl rfl rfl rfl rfl (by exact ovE (mv rfl) rfl), nR rfl rfl rfl rfl rfl (by exact ovE (rem rfl rfl rfl) rfl), nR rfl rfl rfl rfl rfl (by exact ovE (cvi rfl Tryd.runUnderlying3 Tryd.runUnderlying37) rfl), nR rfl rfl rfl rfl rfl (by exact ovE (shl rfl rfl hk249) rfl), nR rfl rfl rfl rfl rfl (by exact ovE (bin rfl rfl rfl) rfl), nR rfl rfl rfl rfl rfl (by exact ovE (ixV rfl rfl Tryd.runUnderlying30 Tryd.sizeOf5 (hV239.rd (i := 2) rfl) (fun _ => rfl) rfl hk245) rfl), trivial⟩) (fun D l a w ho hcl hav hpre hm hE hk hA hst => ?_) ho hcl (fun j hj => (List.not_mem_nil hj).elim) (fun m hm => (List.not_mem_nil hm).elim) List.not_mem_nil hA hst
      have hS := (Ss.mk hE hst).env2 (e' := [(41, .int .u8 (wr .u8 ((rd out237 (iquo .i64 i240 (8 : Int))) + (ishl .u8 (rd w_204.B_ i240) (wr .u64 (irem i240 (8 : Int))))))), (42, slp A213 (Int.toNat (iquo .i64 i240 (8 : Int)) * 1))]) ⟨rfl, rfl, trivial⟩
      refine op_of_nth rfl ?_
      refine stV 2 0 ((wr .u8 ((rd out237 (iquo .i64 i240 (8 : Int))) + (ishl .u8 (rd w_204.B_ i240) (wr .u64 (irem i240 (8 : Int))))))) hS rfl rfl hV239 rfl Tryd.sizeOf5 (one_t5 (wr .u8 ((rd out237 (iquo .i64 i240 (8 : Int))) + (ishl .u8 (rd w_204.B_ i240) (wr .u64 (irem i240 (8 : Int))))))) (fun _ => rfl) hk245 rfl rfl fun zs252 w f250 hz hz253 hV251 hS => ?_
      have hM := lt_to hz hM; clear hz
      refine wpList_nil (then_n ?_)
      have hcl2 := hcl.cons (k := 21) (nth_get rfl) hpre
      have hmust := must_cons (k := 21) hm (chain (k := 21) hcl (nth_get rfl) hpre [(0, 21), (1, 21), (2, 21), (3, 21), (4, 21), (5, 21), (6, 21), (7, 21), (8, 21), (9, 21), (10, 21), (11, 21), (12, 21), (13, 21), (14, 21), (15, 21), (16, 21), (17, 21), (18, 21), (19, 21), (20, 21)] [] rfl (fun _ h => absurd h List.not_mem_nil))
      replace hst := hS.st
      have hav2 := hav.cons (vals' := [some (.slice A213 out237.length c214), some (.int .i64 i240), some (.int .i64 (iquo .i64 i240 (8 : Int))), some (.slice A213 out237.length c214), some (.int .i64 i240), some (.int .i64 (iquo .i64 i240 (8 : Int))), some (slp A213 (Int.toNat (iquo .i64 i240 (8 : Int)) * 1)), some (.int .u8 (rd out237 (iquo .i64 i240 (8 : Int)))), some (ptr b205 0), some (ptr b205 0), some (ptr b205 0), some (.slice A208 w_204.B_.length c209), some (.int .i64 i240), some (slp A208 (Int.toNat i240 * 1)), some (.int .u8 (rd w_204.B_ i240)), some (.int .i64 i240), some (.int .i64 (irem i240 (8 : Int))), some (.int .u64 (wr .u64 (irem i240 (8 : Int)))), some (.int .u8 (ishl .u8 (rd w_204.B_ i240) (wr .u64 (irem i240 (8 : Int))))), some (.int .u8 (wr .u8 ((rd out237 (iquo .i64 i240 (8 : Int))) + (ishl .u8 (rd w_204.B_ i240) (wr .u64 (irem i240 (8 : Int))))))), some (slp A213 (Int.toNat (iquo .i64 i240 (8 : Int)) * 1)), some undef]) (k := 21) ⟨rfl, rfl, rfl, rfl, rfl, rfl, rfl, rfl, rfl, rfl, rfl, rfl, rfl, rfl, rfl, rfl, rfl, rfl, rfl, rfl, rfl, trivial⟩ rfl
      replace hA := (hA.next hav (subV.get (l' := [some (.slice A213 out237.length c214), some (.int .i64 i240), some (.int .i64 (iquo .i64 i240 (8 : Int))), some (.slice A213 out237.length c214), some (.int .i64 i240), some (.int .i64 (iquo .i64 i240 (8 : Int))), some (slp A213 (Int.toNat (iquo .i64 i240 (8 : Int)) * 1)), some (.int .u8 (rd out237 (iquo .i64 i240 (8 : Int)))), some (ptr b205 0), some (ptr b205 0), some (ptr b205 0), some (.slice A208 w_204.B_.length c209), some (.int .i64 i240), some (slp A208 (Int.toNat i240 * 1)), some (.int .u8 (rd w_204.B_ i240)), some (.int .i64 i240), some (.int .i64 (irem i240 (8 : Int))), some (.int .u64 (wr .u64 (irem i240 (8 : Int)))), some (.int .u8 (ishl .u8 (rd w_204.B_ i240) (wr .u64 (irem i240 (8 : Int))))), some (.int .u8 (wr .u8 ((rd out237 (iquo .i64 i240 (8 : Int))) + (ishl .u8 (rd w_204.B_ i240) (wr .u64 (irem i240 (8 : Int))))))), some (slp A213 (Int.toNat (iquo .i64 i240 (8 : Int)) * 1)), some undef]) ⟨rfl, rfl, rfl, rfl, rfl, rfl, rfl, rfl, rfl, rfl, rfl, rfl, rfl, rfl, rfl, rfl, rfl, rfl, rfl, rfl, rfl, trivial⟩)).stepN (i := 21) (nth_get rfl) rfl
      clear hm hav
      replace hcl := hcl2
      refine phaseE (vals := [some (.slice A213 out237.length c214), some (.int .i64 i240), some (.int .i64 (iquo .i64 i240 (8 : Int))), some (.slice A213 out237.length c214), some (.int .i64 i240), some (.int .i64 (iquo .i64 i240 (8 : Int))), some (slp A213 (Int.toNat (iquo .i64 i240 (8 : Int)) * 1)), some (.int .u8 (rd out237 (iquo .i64 i240 (8 : Int)))), some (ptr b205 0), some (ptr b205 0), some (ptr b205 0), some (.slice A208 w_204.B_.length c209), some (.int .i64 i240), some (slp A208 (Int.toNat i240 * 1)), some (.int .u8 (rd w_204.B_ i240)), some (.int .i64 i240), some (.int .i64 (irem i240 (8 : Int))), some (.int .u64 (wr .u64 (irem i240 (8 : Int)))), some (.int .u8 (ishl .u8 (rd w_204.B_ i240) (wr .u64 (irem i240 (8 : Int))))), some (.int .u8 (wr .u8 ((rd out237 (iquo .i64 i240 (8 : Int))) + (ishl .u8 (rd w_204.B_ i240) (wr .u64 (irem i240 (8 : Int))))))), some (slp A213 (Int.toNat (iquo .i64 i240 (8 : Int)) * 1)), some undef]) [21, 0, 1, 2, 3, 4, 5, 6, 7, 8, 9, 10, 11, 12, 13, 14, 15, 16, 17, 18, 19, 20] [] rfl rfl rfl trivial (fun a w hS => ?_) ho hcl hmust hA hst
      replace hS := hS.env2 (e' := [(0, ptr b205 0), (3, .slice A213 zs252.length c214), (4, .int .i64 i240)]) ⟨rfl, (relk (u := .slice A213 out237.length c214) rfl (by rw [hz253])), rfl, trivial⟩
      refine blk_n (then_n ?_)
      refine wp_region_list ?_
      refine st1 hS (mv rfl) rfl fun a w hS => ?_
      refine st1 hS (bin rfl rfl rfl) rfl fun a w hS => ?_
      refine st1x (v := Value.int .i64) hS (asg rfl) rfl fun i254 a w hz hS => ?_
      have hM := lt_to hz hM; clear hz
      refine wpList_nil ?_
      refine then_n ?_
      exact hJ255 _ _ ⟨zs252, f250, i254, hS.to [0, 1, 2] (by kernel_rfl) ⟨rfl, rfl, rfl, trivial⟩, hV251, hM⟩
    · refine wp_exit ?_
      refine then_ex (then_ex (blk_same (then_n ?_)))
      refine wp_seq ?_
      refine wp_region_list ?_
      refine st1 hS (mv rfl) rfl fun a w hS => ?_
      refine st1 hS (cbs rfl Tryd.runUnderlying30 Tryd.runUnderlying5 Tryd.runUnderlying9 (hV239.rd (i := 2) rfl)) rfl fun a w hS => ?_
      refine st1x (v := str) hS (asg rfl) rfl fun v243 a w hz hS => ?_
      have hM := lt_to hz hM; clear hz
      refine wpList_nil ?_
      refine then_n ?_
      refine wp_ret ?_
      exact s_ret (rs := [2]) hS rfl rfl (hret v243 w hM (hS.st.pick [0, 1] (by kernel_rfl)))

theorem bits_Reader_Bits_c {H : Imm} {F : List Frag} {w : World} {R : Ending → World → Prop} {kr : (Int × Int × Int) → Prop} {kp : Value → Prop} (hG : Gl H) (K : Nat) (r280 : T_bits_Reader) (n_284 : Int) (b281 : Nat) (f282 : Frag) (hB283 : Blk f282 b281 ([.int .i64 r280.place_.at_, str r280.text_]) 57)
    (hS : St w H [f282] F) (hm : (bits_Reader_Bits.m K r280 n_284).wp kr kp)
    (hret : ∀ (x308 : Int) (x309 : Int) (at_310 : Int) (f311 : Frag) (w : World), kr (x308, x309, at_310) → (Blk f311 b281 ([.int .i64 at_310, str r280.text_]) 57) → St w H [f311] F → R (.returned (.tuple ⟨[.int .u32 x308, .int .i64 x309]⟩)) w) :
    Calls Tryd.prog 33 ⟨[ptr b281 0, .int .i64 n_284]⟩ w R := by
  refine enter Tryd.func33 rfl Tryd.ntmps33 rfl hS fun a w hS => ?_
  have hM := hm; clear hm
  rw [bits_Reader_Bits.m] at hM
  refine wp_seq ?_
  refine wp_region_list ?_
  refine st1 hS (asg rfl) rfl fun a w hS => ?_
  refine st1 hS (asg rfl) rfl fun a w hS => ?_
  refine wpList_nil ?_
  refine then_n ?_
  refine wp_seq ?_
  refine wp_block ?_
  refine wp_seq ?_
  refine wp_region_list ?_
  refine st1 hS (mv rfl) rfl fun a w hS => ?_
  refine st1 hS (eqNil rfl rfl Tryd.runUnderlying41) rfl fun a w hS => ?_
  refine st1 hS (mv rfl) rfl fun a w hS => ?_
  refine st1g hS rfl rfl rfl rfl (mv rfl) rfl fun a w hS => ?_
  refine st1g hS rfl rfl rfl rfl (bin rfl rfl rfl) rfl fun a w hS => ?_
  refine st1 hS (pk rfl rfl rfl) rfl fun a w hS => ?_
  refine st1 hS (mv rfl) rfl fun a w hS => ?_
  refine g_op 2 false 16 (b := (decide (n_284 < (0 : Int)))) (r := (decide (n_284 > (32 : Int)))) hS rfl rfl rfl rfl rfl rfl rfl (fun hb a w hS K hK => ?_) rfl fun a w hS => ?_
  · refine st1g hS rfl rfl rfl hb (mv rfl) rfl fun a w hS => ?_
    refine st1g hS rfl rfl rfl hb (bin rfl rfl rfl) rfl fun a w hS => ?_
    exact wpList_nil (hK _ _ (hS.up 2 rfl rfl))
  refine st1x (v := Value.bool) hS (asg rfl) rfl fun v285 a w hz hS => ?_
  have hM := lt_to hz hM; clear hz
  refine wpList_nil ?_
  refine then_n ?_
  refine s_cond hS rfl hM (fun hb286 hM => ?_) (fun hb286 hM => ?_)
  · refine wp_seq ?_
    refine wp_region_list ?_
    refine st1 hS (asg rfl) rfl fun a w hS => ?_
    refine st1 hS (asg rfl) rfl fun a w hS => ?_
    refine wpList_nil ?_
    refine then_n ?_
    refine wp_ret ?_
    refine blk_ret (then_ret ?_)
    exact s_ret (rs := [4, 5]) hS rfl rfl (hret (0 : Int) (1 : Int) r280.place_.at_ f282 w hM hB283 (hS.st.pick [0] (by kernel_rfl)))
  · refine wp_seq ?_
    obtain ⟨v287, hz288⟩ : ∃ x, x = (decide (n_284 > (w64 ((w64 ((8 : Int) * (r280.text_.length : Int))) - r280.place_.at_)))) := ⟨_, rfl⟩
    replace hM := lt_to hz288 hM
    refine draw_begin (vals := [some (.int .i64 n_284), some (ptr b281 0), some (ptr b281 0), some (ptr b281 1), some (str r280.text_), some (.int .i64 (r280.text_.length : Int)), some (.int .i64 (w64 ((8 : Int) * (r280.text_.length : Int)))), some (ptr b281 0), some (ptr b281 0), some (ptr b281 0), some (ptr b281 0), some (.int .i64 r280.place_.at_), some (.int .i64 (w64 ((w64 ((8 : Int) * (r280.text_.length : Int))) - r280.place_.at_))), some (.bool (decide (n_284 > (w64 ((w64 ((8 : Int) * (r280.text_.length : Int))) - r280.place_.at_))))), some (.bool v287)]) hS mixed rfl ?_
    intro l w ho hcl hA hst
    refine phaseE (vals := [some (.int .i64 n_284), some (ptr b281 0), some (ptr b281 0), some (ptr b281 1), some (str r280.text_), some (.int .i64 (r280.text_.length : Int)), some (.int .i64 (w64 ((8 : Int) * (r280.text_.length : Int)))), some (ptr b281 0), some (ptr b281 0), some (ptr b281 0), some (ptr b281 0), some (.int .i64 r280.place_.at_), some (.int .i64 (w64 ((w64 ((8 : Int) * (r280.text_.length : Int))) - r280.place_.at_))), some (.bool (decide (n_284 > (w64 ((w64 ((8 : Int) * (r280.text_.length : Int))) - r280.place_.at_))))), some (.bool v287)]) [] [0, 1, 2, 3, 4, 5, 6, 7, 8, 9, 10, 11, 12, 13, 14] rfl rfl rfl (by exact ⟨nR rfl rfl rfl rfl rfl (by exact ovE (mv rfl) rfl), nR rfl rfl rfl rfl rfl (by exact ovE (mv rfl) rfl), nR rfl rfl rfl rfl rfl (by exact ovE (nck rfl) rfl), nR rfl rfl rfl rfl rfl (by exact ovE (fad rfl Tryd.runUnderlying57 rfl Tryd.sizeOf9 rfl) rfl), nR rfl rfl rfl rfl rfl (by exact ovE (ldb 0 rfl hB283 rfl rfl Tryd.isAgg9) rfl), nR rfl rfl rfl rfl rfl (by exact ovE (lenS rfl Tryd.runUnderlying9) rfl), nR rfl rfl rfl rfl rfl (by exact ovE (bin rfl rfl rfl) rfl), nR rfl rfl rfl rfl rfl (by exact ovE (mv rfl) rfl), nR rfl rfl rfl rfl rfl (by exact ovE (nck rfl) rfl), nR rfl rfl rfl rfl rfl (by exact ovE (fad rfl Tryd.runUnderlying57 rfl Tryd.sizeOf55 rfl) rfl), nR rfl rfl rfl rfl rfl (by exact ovE (fad rfl Tryd.runUnderlying55 rfl Tryd.sizeOf3 rfl) rfl), nR rfl rfl rfl rfl rfl (by exact ovE (ldb 0 rfl hB283 rfl rfl Tryd.isAgg3) rfl), nR rfl rfl rfl rfl rfl (by exact ovE (bin rfl rfl rfl) rfl), nR rfl rfl rfl rfl rfl (by exact ovE (bin rfl rfl rfl) rfl), nR rfl rfl rfl rfl rfl (by exact ovE (asg rfl) (congrArg (Value.bool) hz288.symm)), trivial⟩) (fun a w hS => ?_) ho hcl (fun m hm => (List.not_mem_nil hm).elim) hA hst
    replace hS := hS.env2 (e' := [(0, ptr b281 0), (1, .int .i64 n_284), (20, .bool v287)]) ⟨rfl, rfl, rfl, trivial⟩
    refine then_n ?_
    refine s_cond hS rfl hM (fun hb289 hM => ?_) (fun hb289 hM => ?_)
    · refine wp_seq ?_
      refine wp_region_list ?_
      refine st1 hS (asg rfl) rfl fun a w hS => ?_
      refine st1 hS (asg rfl) rfl fun a w hS => ?_
      refine wpList_nil ?_
      refine then_n ?_
      refine wp_ret ?_
      refine blk_ret (then_ret ?_)
      exact s_ret (rs := [4, 5]) hS rfl rfl (hret (0 : Int) (2 : Int) r280.place_.at_ f282 w hM hB283 (hS.st.pick [0] (by kernel_rfl)))
    · refine wp_skip ?_
      refine blk_n (then_n ?_)
      refine wp_seq ?_
      refine wp_region_list ?_
      refine st1 hS (asg rfl) rfl fun a w hS => ?_
      refine wpList_nil ?_
      refine then_n ?_
      refine wp_seq ?_
      refine wp_region_list ?_
      refine st1 hS (mv rfl) rfl fun a w hS => ?_
      refine st1 hS (nck rfl) rfl fun a w hS => ?_
      refine st1 hS (fad rfl Tryd.runUnderlying57 rfl Tryd.sizeOf55 rfl) rfl fun a w hS => ?_
      refine st1 hS (fad rfl Tryd.runUnderlying55 rfl Tryd.sizeOf3 rfl) rfl fun a w hS => ?_
      refine st1 hS (ldb 0 rfl hB283 rfl rfl Tryd.isAgg3) rfl fun a w hS => ?_
      refine st1 hS (quo rfl rfl rfl) rfl fun a w hS => ?_
      refine st1x (v := Value.int .i64) hS (asg rfl) rfl fun first290 a w hz hS => ?_
      have hM := lt_to hz hM; clear hz
      refine wpList_nil ?_
      refine then_n ?_
      refine seq_joinJ (fun a w => ∃ (v300 : Int), Ss 93 [] [(0, ptr b281 0), (1, .int .i64 n_284), (6, .int .u64 v300)] H [f282] F a w ∧ (bits_Reader_Bits.j2 K r280 n_284 v300).wp kr kp) (fun J301 hJ301 => ?_) ?_
      · refine wp_seq ?_
        refine wp_region_list ?_
        refine st1 hS (asg rfl) rfl fun a w hS => ?_
        refine wpList_nil ?_
        refine then_n ?_
        refine wp_block ?_
        refine s_loopJ (fun k293 a w => ∃ (v291 : Int) (i292 : Int), Ss 93 [] [(0, ptr b281 0), (1, .int .i64 n_284), (6, .int .u64 v291), (7, .int .i64 first290), (8, .int .i64 i292)] H [f282] F a w ∧ (bits_Reader_Bits.l1 K r280 n_284 first290 k293 v291 i292).wp kr kp) K ?_ ?_ ?_
        · exact ⟨(0 : Int), (0 : Int), hS.to [0] (by kernel_rfl) ⟨rfl, rfl, rfl, rfl, rfl, trivial⟩, hM⟩
        · intro a w hI; obtain ⟨_, _, _, hM⟩ := hI; exact hM
        · intro k293 a w hI J299 hJ299
          obtain ⟨v291, i292, hS, hM⟩ := hI
          rw [bits_Reader_Bits.l1] at hM
          refine wp_seq ?_
          refine wp_seq ?_
          refine wp_region_list ?_
          refine st1 hS (mv rfl) rfl fun a w hS => ?_
          refine st1 hS (mv rfl) rfl fun a w hS => ?_
          refine st1 hS (bin rfl rfl rfl) rfl fun a w hS => ?_
          refine st1 hS (bin rfl rfl rfl) rfl fun a w hS => ?_
          refine st1 hS (mv rfl) rfl fun a w hS => ?_
          refine st1 hS (nck rfl) rfl fun a w hS => ?_
          refine st1 hS (fad rfl Tryd.runUnderlying57 rfl Tryd.sizeOf55 rfl) rfl fun a w hS => ?_
          refine st1 hS (fad rfl Tryd.runUnderlying55 rfl Tryd.sizeOf3 rfl) rfl fun a w hS => ?_
          refine st1 hS (ldb 0 rfl hB283 rfl rfl Tryd.isAgg3) rfl fun a w hS => ?_
          refine st1 hS (mv rfl) rfl fun a w hS => ?_
          refine st1 hS (bin rfl rfl rfl) rfl fun a w hS => ?_
          refine st1 hS (bin rfl rfl rfl) rfl fun a w hS => ?_
          refine wpList_nil ?_
          refine then_n ?_
          refine s_cond hS rfl hM (fun hb294 hM => ?_) (fun hb294 hM => ?_)
          · refine wp_skip ?_
            refine then_n ?_
            refine wp_seq ?_
            refine wp_block ?_
            refine wp_region_list ?_
            refine st1 hS (mv rfl) rfl fun a w hS => ?_
            refine st1 hS (mv rfl) rfl fun a w hS => ?_
            refine st1 hS (nck rfl) rfl fun a w hS => ?_
            refine st1 hS (fad rfl Tryd.runUnderlying57 rfl Tryd.sizeOf9 rfl) rfl fun a w hS => ?_
            refine st1 hS (ldb 0 rfl hB283 rfl rfl Tryd.isAgg9) rfl fun a w hS => ?_
            refine st1 hS (mv rfl) rfl fun a w hS => ?_
            refine st1 hS (mv rfl) rfl fun a w hS => ?_
            refine st1 hS (bin rfl rfl rfl) rfl fun a w hS => ?_
            obtain ⟨hk295, hM⟩ := wp_chk hM
            refine st1 hS (ixs rfl rfl Tryd.runUnderlying9 hk295) rfl fun a w hS => ?_
            refine st1 hS (cvi rfl Tryd.runUnderlying5 Tryd.runUnderlying98) rfl fun a w hS => ?_
            refine st1 hS (mv rfl) rfl fun a w hS => ?_
            refine st1 hS (bin rfl rfl rfl) rfl fun a w hS => ?_
            obtain ⟨hk296, hM⟩ := wp_chk hM
            refine st1 hS (shl rfl rfl hk296) rfl fun a w hS => ?_
            refine st1 hS (bin rfl rfl rfl) rfl fun a w hS => ?_
            refine st1x (v := Value.int .u64) hS (asg rfl) rfl fun v297 a w hz hS => ?_
            have hM := lt_to hz hM; clear hz
            refine wpList_nil ?_
            refine blk_n (then_n ?_)
            refine wp_region_list ?_
            refine st1 hS (mv rfl) rfl fun a w hS => ?_
            refine st1 hS (bin rfl rfl rfl) rfl fun a w hS => ?_
            refine st1x (v := Value.int .i64) hS (asg rfl) rfl fun i298 a w hz hS => ?_
            have hM := lt_to hz hM; clear hz
            refine wpList_nil ?_
            refine then_n ?_
            exact hJ299 _ _ ⟨v297, i298, hS.to [0] (by kernel_rfl) ⟨rfl, rfl, rfl, rfl, rfl, trivial⟩, hM⟩
          · refine wp_exit ?_
            refine then_ex (then_ex (blk_same (then_n ?_)))
            exact hJ301 _ _ ⟨v291, hS.to [0] (by kernel_rfl) ⟨rfl, rfl, rfl, trivial⟩, hM⟩
      · intro a w hI
        obtain ⟨v300, hS, hM⟩ := hI
        rw [bits_Reader_Bits.j2] at hM
        refine wp_seq ?_
        refine wp_region_list ?_
        refine st1 hS (mv rfl) rfl fun a w hS => ?_
        refine st1 hS (mv rfl) rfl fun a w hS => ?_
        refine st1 hS (nck rfl) rfl fun a w hS => ?_
        refine st1 hS (fad rfl Tryd.runUnderlying57 rfl Tryd.sizeOf55 rfl) rfl fun a w hS => ?_
        refine st1 hS (fad rfl Tryd.runUnderlying55 rfl Tryd.sizeOf3 rfl) rfl fun a w hS => ?_
        refine st1 hS (ldb 0 rfl hB283 rfl rfl Tryd.isAgg3) rfl fun a w hS => ?_
        refine st1 hS (bin rfl rfl rfl) rfl fun a w hS => ?_
        obtain ⟨hk302, hM⟩ := wp_chk hM
        refine st1 hS (shr rfl rfl hk302) rfl fun a w hS => ?_
        refine st1x (v := Value.int .u64) hS (asg rfl) rfl fun v303 a w hz hS => ?_
        have hM := lt_to hz hM; clear hz
        refine wpList_nil ?_
        refine then_n ?_
        refine wp_seq ?_
        refine wp_region_list ?_
        refine st1 hS (mv rfl) rfl fun a w hS => ?_
        refine st1 hS (nck rfl) rfl fun a w hS => ?_
        refine st1 hS (fad rfl Tryd.runUnderlying57 rfl Tryd.sizeOf55 rfl) rfl fun a w hS => ?_
        refine st1 hS (fad rfl Tryd.runUnderlying55 rfl Tryd.sizeOf3 rfl) rfl fun a w hS => ?_
        refine st1 hS (ldb 0 rfl hB283 rfl rfl Tryd.isAgg3) rfl fun a w hS => ?_
        refine st1 hS (mv rfl) rfl fun a w hS => ?_
        refine st1 hS (bin rfl rfl rfl) rfl fun a w hS => ?_
        refine st1 hS (nck rfl) rfl fun a w hS => ?_
        refine st1 hS (fad rfl Tryd.runUnderlying57 rfl Tryd.sizeOf55 rfl) rfl fun a w hS => ?_
        refine st1 hS (fad rfl Tryd.runUnderlying55 rfl Tryd.sizeOf3 rfl) rfl fun a w hS => ?_
        refine sto 0 ([.int .i64 (w64 (r280.place_.at_ + n_284)), str r280.text_]) hS rfl rfl hB283 rfl rfl rfl rfl Tryd.sizeOf3 fun w f304 hB305 hS => ?_
        refine wpList_nil ?_
        refine then_n ?_
        refine wp_seq ?_
        refine wp_region_list ?_
        refine st1 hS (mv rfl) rfl fun a w hS => ?_
        refine st1 hS (mv rfl) rfl fun a w hS => ?_
        obtain ⟨hk306, hM⟩ := wp_chk hM
        refine st1 hS (shl rfl rfl hk306) rfl fun a w hS => ?_
        refine st1 hS (bin rfl rfl rfl) rfl fun a w hS => ?_
        refine st1 hS (bin rfl rfl rfl) rfl fun a w hS => ?_
        refine st1 hS (cvi rfl Tryd.runUnderlying98 Tryd.runUnderlying33) rfl fun a w hS => ?_
        refine st1x (v := Value.int .u32) hS (asg rfl) rfl fun v307 a w hz hS => ?_
        have hM := lt_to hz hM; clear hz
        refine st1 hS (asg rfl) rfl fun a w hS => ?_
        refine wpList_nil ?_
        refine then_n ?_
        refine wp_ret ?_
        exact s_ret (rs := [4, 5]) hS rfl rfl (hret v307 (0 : Int) (w64 (r280.place_.at_ + n_284)) f304 w hM hB305 (hS.st.pick [0] (by kernel_rfl)))

theorem inflate_must_c {H : Imm} {F : List Frag} {w : World} {R : Ending → World → Prop} {kr : Unit → Prop} {kp : Value → Prop} (hG : Gl H) (K : Nat) (e_318 : Int)
    (hS : St w H [] F) (hm : (inflate_must.m K e_318).wp kr kp)
    (hret : ∀ (w : World), kr () → St w H [] F → R (.returned (.tuple ⟨[]⟩)) w)
    (hpan : ∀ v w, kp v → St w H [] F → R (.panicked [⟨v, false, false⟩]) w) :
    Calls Tryd.prog 34 ⟨[.int .i64 e_318]⟩ w R := by
  refine enter Tryd.func34 rfl Tryd.ntmps34 rfl hS fun a w hS => ?_
  have hM := hm; clear hm
  rw [inflate_must.m] at hM
  refine wp_seq ?_
  refine wp_region_list ?_
  refine st1 hS (mv rfl) rfl fun a w hS => ?_
  refine st1 hS (bin rfl rfl rfl) rfl fun a w hS => ?_
  refine wpList_nil ?_
  refine then_n ?_
  refine s_cond hS rfl hM (fun hb319 hM => ?_) (fun hb319 hM => ?_)
  · refine wp_region_list ?_
    refine st1 hS (mv rfl) rfl fun a w hS => ?_
    refine st1 hS (bld ([.int .i64 e_318]) [(0, 1)] Tryd.zeroValue39 Tryd.runUnderlying39 (by intro w; simp [Tryd.sizeOf23]) rfl rfl) rfl fun a w hS => ?_
    refine st1 hS (mkI rfl Tryd.runUnderlying39 rfl) rfl fun a w hS => ?_
    refine s_panic hS rfl ?_
    exact ⟨hS.ev.defs, hpan _ _ hM hS.st.frame⟩
  · refine wp_skip ?_
    exact s_end (rs := []) hS rfl rfl (hret w hM (hS.st.pick [] (by kernel_rfl)))

theorem inflate_reader_number_c {H : Imm} {F : List Frag} {w : World} {R : Ending → World → Prop} {kr : (Int × Int) → Prop} {kp : Value → Prop} (hG : Gl H) (K : Nat) (r268 : T_inflate_reader) (n_279 : Int) (b269 : Nat) (f270 : Frag) (b272 : Nat) (f273 : Frag) (A275 : Option Addr) (c276 : Nat) (f277 : Frag) (hB271 : Blk f270 b269 ([ptr b272 0, .slice A275 r268.out_.length c276, .int .i64 r268.limit_]) 44) (hB274 : Blk f273 b272 ([.int .i64 r268.Reader_.place_.at_, str r268.Reader_.text_]) 57) (hV278 : Vec 5 (ci .u8) 1 A275 r268.out_ c276 f277)
    (hS : St w H [f270, f273, f277] F) (hm : (inflate_reader_number.m K r268 n_279).wp kr kp)
    (hret : ∀ (x321 : Int) (at_322 : Int) (f323 : Frag) (w : World), kr (x321, at_322) → (Blk f323 b272 ([.int .i64 at_322, str r268.Reader_.text_]) 57) → St w H [f270, f323, f277] F → R (.returned (.int .i64 x321)) w)
    (hpan : ∀ v w, kp v → St w H [] F → R (.panicked [⟨v, false, false⟩]) w) :
    Calls Tryd.prog 21 ⟨[ptr b269 0, .int .i64 n_279]⟩ w R := by
  refine enter Tryd.func21 rfl Tryd.ntmps21 rfl hS fun a w hS => ?_
  have hM := hm; clear hm
  rw [inflate_reader_number.m] at hM
  refine wp_seq ?_
  refine wp_region_list ?_
  refine st1 hS (asg rfl) rfl fun a w hS => ?_
  refine wpList_nil ?_
  refine then_n ?_
  refine wp_seq ?_
  refine wp_region_list ?_
  refine st1 hS (mv rfl) rfl fun a w hS => ?_
  refine st1 hS (nck rfl) rfl fun a w hS => ?_
  refine st1 hS (fad rfl Tryd.runUnderlying44 rfl Tryd.sizeOf41 rfl) rfl fun a w hS => ?_
  refine st1 hS (ldb 0 rfl hB271 rfl rfl Tryd.isAgg41) rfl fun a w hS => ?_
  refine st1 hS (mv rfl) rfl fun a w hS => ?_
  refine s_call hS rfl Tryd.call33 (bits_Reader_Bits_c hG K r268.Reader_ n_279 b272 f273 hB274 (hS.st.part 1 [1, 0, 2] (by kernel_rfl)) (wp_bind hM) (fun x313 x314 at_315 f316 w hM h317 hst => s_back hS.ev hst.appF rfl fun hS => ?_))
  replace hS : Ss _ _ _ H [f316, f270, f277] F _ _ := hS
  refine st1 hS (mv rfl) rfl fun a w hS => ?_
  refine st1 hS (ex rfl rfl) rfl fun a w hS => ?_
  refine st1 hS (ex rfl rfl) rfl fun a w hS => ?_
  refine st1 hS (asg rfl) rfl fun a w hS => ?_
  refine st1 hS (asg rfl) rfl fun a w hS => ?_
  refine wpList_nil ?_
  refine then_n ?_
  refine wp_seq ?_
  refine wp_region_list ?_
  refine st1 hS (mv rfl) rfl fun a w hS => ?_
  refine s_call hS rfl Tryd.call34 (inflate_must_c hG K x314 (hS.st.part 0 [0, 1, 2] (by kernel_rfl)) (wp_bind hM) (fun  w hM  hst => s_back hS.ev hst.appF rfl fun hS => ?_) (fun v w hk hst => s_pan (then_pan (⟨hS.ev.defs, hpan _ _ hk hst.appF.frame⟩))))
  replace hS : Ss _ _ _ H [f316, f270, f277] F _ _ := hS
  refine wpList_nil ?_
  refine then_n ?_
  refine wp_seq ?_
  refine wp_region_list ?_
  refine st1 hS (mv rfl) rfl fun a w hS => ?_
  refine st1 hS (cvi rfl Tryd.runUnderlying33 Tryd.runUnderlying3) rfl fun a w hS => ?_
  refine st1x (v := Value.int .i64) hS (asg rfl) rfl fun v320 a w hz hS => ?_
  have hM := lt_to hz hM; clear hz
  refine wpList_nil ?_
  refine then_n ?_
  refine wp_ret ?_
  exact s_ret (rs := [4]) hS rfl rfl (hret v320 at_315 f316 w hM h317 (hS.st.pick [1, 0, 2] (by kernel_rfl)))

theorem bits_place_align_bits_Reader_c {H : Imm} {F : List Frag} {w : World} {R : Ending → World → Prop} {kr : Int → Prop} {kp : Value → Prop} (hG : Gl H) (K : Nat) (p353 : T_bits_Reader) (b354 : Nat) (f355 : Frag) (hB356 : Blk f355 b354 ([.int .i64 p353.place_.at_, str p353.text_]) 57)
    (hS : St w H [f355] F) (hm : (bits_place_align_bits_Reader.m K p353).wp kr kp)
    (hret : ∀ (at_359 : Int) (f360 : Frag) (w : World), kr at_359 → (Blk f360 b354 ([.int .i64 at_359, str p353.text_]) 57) → St w H [f360] F → R (.returned (.tuple ⟨[]⟩)) w) :
    Calls Tryd.prog 47 ⟨[ptr b354 0]⟩ w R := by
  refine enter Tryd.func47 rfl Tryd.ntmps47 rfl hS fun a w hS => ?_
  have hM := hm; clear hm
  rw [bits_place_align_bits_Reader.m] at hM
  refine wp_region_list ?_
  refine st1 hS (mv rfl) rfl fun a w hS => ?_
  refine st1 hS (mv rfl) rfl fun a w hS => ?_
  refine st1 hS (nck rfl) rfl fun a w hS => ?_
  refine st1 hS (fad rfl Tryd.runUnderlying55 rfl Tryd.sizeOf3 rfl) rfl fun a w hS => ?_
  refine st1 hS (ldb 0 rfl hB356 rfl rfl Tryd.isAgg3) rfl fun a w hS => ?_
  refine st1 hS (bin rfl rfl rfl) rfl fun a w hS => ?_
  refine st1 hS (bin rfl rfl rfl) rfl fun a w hS => ?_
  refine st1 hS (nck rfl) rfl fun a w hS => ?_
  refine st1 hS (fad rfl Tryd.runUnderlying55 rfl Tryd.sizeOf3 rfl) rfl fun a w hS => ?_
  refine sto 0 ([.int .i64 (iandn .i64 (w64 (p353.place_.at_ + (7 : Int))) (7 : Int)), str p353.text_]) hS rfl rfl hB356 rfl rfl rfl rfl Tryd.sizeOf3 fun w f357 hB358 hS => ?_
  refine wpList_nil ?_
  exact s_end (rs := []) hS rfl rfl (hret (iandn .i64 (w64 (p353.place_.at_ + (7 : Int))) (7 : Int)) f357 w hM hB358 (hS.st.pick [0] (by kernel_rfl)))

theorem bits_Reader_Bytes_c {H : Imm} {F : List Frag} {w : World} {R : Ending → World → Prop} {kr : ((List UInt8) × Int × Int) → Prop} {kp : Value → Prop} (hG : Gl H) (K : Nat) (r347 : T_bits_Reader) (n_351 : Int) (b348 : Nat) (f349 : Frag) (hB350 : Blk f349 b348 ([.int .i64 r347.place_.at_, str r347.text_]) 57)
    (hS : St w H [f349] F) (hm : (bits_Reader_Bytes.m K r347 n_351).wp kr kp)
    (hret : ∀ (x374 : List UInt8) (x375 : Int) (at_376 : Int) (f377 : Frag) (w : World), kr (x374, x375, at_376) → (Blk f377 b348 ([.int .i64 at_376, str r347.text_]) 57) → St w H [f377] F → R (.returned (.tuple ⟨[str x374, .int .i64 x375]⟩)) w) :
    Calls Tryd.prog 35 ⟨[ptr b348 0, .int .i64 n_351]⟩ w R := by
  refine enter Tryd.func35 rfl Tryd.ntmps35 rfl hS fun a w hS => ?_
  have hM := hm; clear hm
  rw [bits_Reader_Bytes.m] at hM
  refine wp_seq ?_
  refine wp_region_list ?_
  refine st1 hS (asg rfl) rfl fun a w hS => ?_
  refine st1 hS (asg rfl) rfl fun a w hS => ?_
  refine wpList_nil ?_
  refine then_n ?_
  refine wp_seq ?_
  refine wp_seq ?_
  refine wp_region_list ?_
  refine st1 hS (mv rfl) rfl fun a w hS => ?_
  refine st1 hS (eqNil rfl rfl Tryd.runUnderlying41) rfl fun a w hS => ?_
  refine st1 hS (mv rfl) rfl fun a w hS => ?_
  refine st1g hS rfl rfl rfl rfl (mv rfl) rfl fun a w hS => ?_
  refine st1g hS rfl rfl rfl rfl (bin rfl rfl rfl) rfl fun a w hS => ?_
  refine st1 hS (pk rfl rfl rfl) rfl fun a w hS => ?_
  refine wpList_nil ?_
  refine then_n ?_
  refine s_cond hS rfl hM (fun hb352 hM => ?_) (fun hb352 hM => ?_)
  · refine wp_seq ?_
    refine wp_region_list ?_
    refine st1 hS (asg rfl) rfl fun a w hS => ?_
    refine st1 hS (asg rfl) rfl fun a w hS => ?_
    refine wpList_nil ?_
    refine then_n ?_
    refine wp_ret ?_
    refine then_ret ?_
    exact s_ret (rs := [4, 5]) hS rfl rfl (hret ([] : List UInt8) (1 : Int) r347.place_.at_ f349 w hM hB350 (hS.st.pick [0] (by kernel_rfl)))
  · refine wp_skip ?_
    refine then_n ?_
    refine wp_seq ?_
    refine wp_region_list ?_
    refine st1 hS (mv rfl) rfl fun a w hS => ?_
    refine st1 hS (nck rfl) rfl fun a w hS => ?_
    refine st1 hS (fad rfl Tryd.runUnderlying57 rfl Tryd.sizeOf55 rfl) rfl fun a w hS => ?_
    refine s_call hS rfl Tryd.call47 (bits_place_align_bits_Reader_c hG K r347 b348 f349 hB350 (hS.st.part 1 [0] (by kernel_rfl)) (wp_bind hM) (fun at_362 f363 w hM h364 hst => s_back hS.ev hst.appF rfl fun hS => ?_))
    replace hS : Ss _ _ _ H [f363] F _ _ := hS
    refine wpList_nil ?_
    refine then_n ?_
    refine wp_seq ?_
    obtain ⟨hk366, hM⟩ := wp_chk hM
    obtain ⟨rest367, hz368⟩ : ∃ x, x = (sub r347.text_ (iquo .i64 at_362 (8 : Int)) (r347.text_.length : Int)) := ⟨_, rfl⟩
    replace hM := lt_to hz368 hM
    refine draw_begin (vals := [some (ptr b348 0), some (ptr b348 0), some (ptr b348 1), some (str r347.text_), some (ptr b348 0), some (ptr b348 0), some (ptr b348 0), some (ptr b348 0), some (.int .i64 at_362), some (.int .i64 (iquo .i64 at_362 (8 : Int))), some (str (sub r347.text_ (iquo .i64 at_362 (8 : Int)) (r347.text_.length : Int))), some (str rest367)]) hS mixed rfl ?_
    intro l w ho hcl hA hst
    refine phaseE (vals := [some (ptr b348 0), some (ptr b348 0), some (ptr b348 1), some (str r347.text_), some (ptr b348 0), some (ptr b348 0), some (ptr b348 0), some (ptr b348 0), some (.int .i64 at_362), some (.int .i64 (iquo .i64 at_362 (8 : Int))), some (str (sub r347.text_ (iquo .i64 at_362 (8 : Int)) (r347.text_.length : Int))), some (str rest367)]) [] [0, 1, 2, 3, 4, 5, 6, 7, 8, 9, 10, 11] rfl rfl rfl (by exact ⟨nR rfl rfl rfl rfl rfl (by exact ovE (mv rfl) rfl), nR rfl rfl rfl rfl rfl (by exact ovE (nck rfl) rfl), nR rfl rfl rfl rfl rfl (by exact ovE (fad rfl Tryd.runUnderlying57 rfl Tryd.sizeOf9 rfl) rfl), nR rfl rfl rfl rfl rfl (by exact ovE (ldb 0 rfl h364 rfl rfl Tryd.isAgg9) rfl), nR rfl rfl rfl rfl rfl (by exact ovE (mv rfl) rfl), nR rfl rfl rfl rfl rfl (by exact ovE (nck rfl) rfl), nR rfl rfl rfl rfl rfl (by exact ovE (fad rfl Tryd.runUnderlying57 rfl Tryd.sizeOf55 rfl) rfl), nR rfl rfl rfl rfl rfl (by exact ovE (fad rfl Tryd.runUnderlying55 rfl Tryd.sizeOf3 rfl) rfl), nR rfl rfl rfl rfl rfl (by exact ovE (ldb 0 rfl h364 rfl rfl Tryd.isAgg3) rfl), nR rfl rfl rfl rfl rfl (by exact ovE (quo rfl rfl rfl) rfl), nR rfl rfl rfl rfl rfl (by exact ovE (slS rfl Tryd.runUnderlying9 (loS rfl) hi0 hk366) rfl), nR rfl rfl rfl rfl rfl (by exact ovE (asg rfl) (congrArg (str) hz368.symm)), trivial⟩) (fun a w hS => ?_) ho hcl (fun m hm => (List.not_mem_nil hm).elim) hA hst
    replace hS := hS.env2 (e' := [(0, ptr b348 0), (1, .int .i64 n_351), (6, str rest367)]) ⟨rfl, rfl, rfl, trivial⟩
    refine then_n ?_
    refine wp_seq ?_
    refine wp_seq ?_
    refine wp_region_list ?_
    refine st1 hS (mv rfl) rfl fun a w hS => ?_
    refine st1 hS (mv rfl) rfl fun a w hS => ?_
    refine st1 hS (lenS rfl Tryd.runUnderlying9) rfl fun a w hS => ?_
    refine st1 hS (bin rfl rfl rfl) rfl fun a w hS => ?_
    refine wpList_nil ?_
    refine then_n ?_
    refine s_cond hS rfl hM (fun hb369 hM => ?_) (fun hb369 hM => ?_)
    · refine wp_seq ?_
      refine wp_region_list ?_
      refine st1 hS (asg rfl) rfl fun a w hS => ?_
      refine st1 hS (asg rfl) rfl fun a w hS => ?_
      refine wpList_nil ?_
      refine then_n ?_
      refine wp_ret ?_
      refine then_ret ?_
      exact s_ret (rs := [4, 5]) hS rfl rfl (hret ([] : List UInt8) (2 : Int) at_362 f363 w hM h364 (hS.st.pick [0] (by kernel_rfl)))
    · refine wp_skip ?_
      refine then_n ?_
      refine wp_seq ?_
      refine wp_region_list ?_
      refine st1 hS (mv rfl) rfl fun a w hS => ?_
      refine st1 hS (nck rfl) rfl fun a w hS => ?_
      refine st1 hS (fad rfl Tryd.runUnderlying57 rfl Tryd.sizeOf55 rfl) rfl fun a w hS => ?_
      refine st1 hS (fad rfl Tryd.runUnderlying55 rfl Tryd.sizeOf3 rfl) rfl fun a w hS => ?_
      refine st1 hS (ldb 0 rfl h364 rfl rfl Tryd.isAgg3) rfl fun a w hS => ?_
      refine st1 hS (mv rfl) rfl fun a w hS => ?_
      refine st1 hS (bin rfl rfl rfl) rfl fun a w hS => ?_
      refine st1 hS (bin rfl rfl rfl) rfl fun a w hS => ?_
      refine st1 hS (nck rfl) rfl fun a w hS => ?_
      refine st1 hS (fad rfl Tryd.runUnderlying57 rfl Tryd.sizeOf55 rfl) rfl fun a w hS => ?_
      refine st1 hS (fad rfl Tryd.runUnderlying55 rfl Tryd.sizeOf3 rfl) rfl fun a w hS => ?_
      refine sto 0 ([.int .i64 (w64 (at_362 + (w64 ((8 : Int) * n_351)))), str r347.text_]) hS rfl rfl h364 rfl rfl rfl rfl Tryd.sizeOf3 fun w f370 hB371 hS => ?_
      refine wpList_nil ?_
      refine then_n ?_
      refine wp_seq ?_
      refine wp_region_list ?_
      refine st1 hS (mv rfl) rfl fun a w hS => ?_
      refine st1 hS (mv rfl) rfl fun a w hS => ?_
      obtain ⟨hk372, hM⟩ := wp_chk hM
      refine st1 hS (slS rfl Tryd.runUnderlying9 lo0 (hiS rfl) hk372) rfl fun a w hS => ?_
      refine st1x (v := str) hS (asg rfl) rfl fun v373 a w hz hS => ?_
      have hM := lt_to hz hM; clear hz
      refine st1 hS (asg rfl) rfl fun a w hS => ?_
      refine wpList_nil ?_
      refine then_n ?_
      refine wp_ret ?_
      exact s_ret (rs := [4, 5]) hS rfl rfl (hret v373 (0 : Int) (w64 (at_362 + (w64 ((8 : Int) * n_351)))) f370 w hM hB371 (hS.st.pick [0] (by kernel_rfl)))

theorem inflate_refuse_c {H : Imm} {F : List Frag} {w : World} {R : Ending → World → Prop} {kr : Unit → Prop} {kp : Value → Prop} (hG : Gl H) (K : Nat) (bad394 : Bool) (e_395 : Int)
    (hS : St w H [] F) (hm : (inflate_refuse.m K bad394 e_395).wp kr kp)
    (hret : ∀ (w : World), kr () → St w H [] F → R (.returned (.tuple ⟨[]⟩)) w)
    (hpan : ∀ v w, kp v → St w H [] F → R (.panicked [⟨v, false, false⟩]) w) :
    Calls Tryd.prog 26 ⟨[.bool bad394, .int .i64 e_395]⟩ w R := by
  refine enter Tryd.func26 rfl Tryd.ntmps26 rfl hS fun a w hS => ?_
  have hM := hm; clear hm
  rw [inflate_refuse.m] at hM
  refine wp_seq ?_
  refine wp_region_list ?_
  refine st1 hS (mv rfl) rfl fun a w hS => ?_
  refine wpList_nil ?_
  refine then_n ?_
  refine s_cond hS rfl hM (fun hb396 hM => ?_) (fun hb396 hM => ?_)
  · refine wp_region_list ?_
    refine st1 hS (mv rfl) rfl fun a w hS => ?_
    refine st1 hS (bld ([.int .i64 e_395]) [(0, 1)] Tryd.zeroValue39 Tryd.runUnderlying39 (by intro w; simp [Tryd.sizeOf23]) rfl rfl) rfl fun a w hS => ?_
    refine st1 hS (mkI rfl Tryd.runUnderlying39 rfl) rfl fun a w hS => ?_
    refine s_panic hS rfl ?_
    exact ⟨hS.ev.defs, hpan _ _ hM hS.st.frame⟩
  · refine wp_skip ?_
    exact s_end (rs := []) hS rfl rfl (hret w hM (hS.st.pick [] (by kernel_rfl)))

theorem inflate_reader_stored_c {H : Imm} {F : List Frag} {w : World} {R : Ending → World → Prop} {kr : (Int × (List Int)) → Prop} {kp : Value → Prop} (hG : Gl H) (K : Nat) (r336 : T_inflate_reader) (b337 : Nat) (f338 : Frag) (b340 : Nat) (f341 : Frag) (A343 : Option Addr) (c344 : Nat) (f345 : Frag) (hB339 : Blk f338 b337 ([ptr b340 0, .slice A343 r336.out_.length c344, .int .i64 r336.limit_]) 44) (hB342 : Blk f341 b340 ([.int .i64 r336.Reader_.place_.at_, str r336.Reader_.text_]) 57) (hV346 : Vec 5 (ci .u8) 1 A343 r336.out_ c344 f345)
    (hS : St w H [f338, f341, f345] F) (hm : (inflate_reader_stored.m K r336).wp kr kp)
    (hret : ∀ (at_410 : Int) (f411 : Frag) (A413 : Option Addr) (c414 : Nat) (out415 : (List Int)) (f416 : Frag) (f418 : Frag) (w : World), kr (at_410, out415) → (Blk f411 b340 ([.int .i64 at_410, str r336.Reader_.text_]) 57) → (Vec 5 (ci .u8) 1 A413 out415 c414 f416) → (Blk f418 b337 ([ptr b340 0, .slice A413 out415.length c414, .int .i64 r336.limit_]) 44) → St w H [f418, f411, f416] F → R (.returned (.tuple ⟨[]⟩)) w)
    (hpan : ∀ v w, kp v → St w H [] F → R (.panicked [⟨v, false, false⟩]) w) :
    Calls Tryd.prog 22 ⟨[ptr b337 0]⟩ w R := by
  refine enter Tryd.func22 rfl Tryd.ntmps22 rfl hS fun a w hS => ?_
  have hM := hm; clear hm
  rw [inflate_reader_stored.m] at hM
  refine wp_seq ?_
  refine wp_region_list ?_
  refine st1 hS (mv rfl) rfl fun a w hS => ?_
  refine st1 hS (nck rfl) rfl fun a w hS => ?_
  refine st1 hS (fad rfl Tryd.runUnderlying44 rfl Tryd.sizeOf41 rfl) rfl fun a w hS => ?_
  refine st1 hS (ldb 0 rfl hB339 rfl rfl Tryd.isAgg41) rfl fun a w hS => ?_
  refine s_call hS rfl Tryd.call35 (bits_Reader_Bytes_c hG K r336.Reader_ (4 : Int) b340 f341 hB342 (hS.st.part 1 [1, 0, 2] (by kernel_rfl)) (wp_bind hM) (fun x379 x380 at_381 f382 w hM h383 hst => s_back hS.ev hst.appF rfl fun hS => ?_))
  replace hS : Ss _ _ _ H [f382, f338, f345] F _ _ := hS
  refine st1 hS (mv rfl) rfl fun a w hS => ?_
  refine st1 hS (ex rfl rfl) rfl fun a w hS => ?_
  refine st1 hS (ex rfl rfl) rfl fun a w hS => ?_
  refine st1 hS (asg rfl) rfl fun a w hS => ?_
  refine st1 hS (asg rfl) rfl fun a w hS => ?_
  refine wpList_nil ?_
  refine then_n ?_
  refine wp_seq ?_
  refine wp_region_list ?_
  refine st1 hS (mv rfl) rfl fun a w hS => ?_
  refine s_call hS rfl Tryd.call34 (inflate_must_c hG K x380 (hS.st.part 0 [0, 1, 2] (by kernel_rfl)) (wp_bind hM) (fun  w hM  hst => s_back hS.ev hst.appF rfl fun hS => ?_) (fun v w hk hst => s_pan (then_pan (⟨hS.ev.defs, hpan _ _ hk hst.appF.frame⟩))))
  replace hS : Ss _ _ _ H [f382, f338, f345] F _ _ := hS
  refine wpList_nil ?_
  refine then_n ?_
  refine wp_seq ?_
  obtain ⟨hk385, hM⟩ := wp_chk hM
  obtain ⟨hk387, hM⟩ := wp_chk hM
  obtain ⟨n_388, hz389⟩ : ∃ x, x = (ior .i64 (wr .i64 ((rd x379 (0 : Int)).toNat : Int)) (ishl .i64 (wr .i64 ((rd x379 (1 : Int)).toNat : Int)) (8 : Int))) := ⟨_, rfl⟩
  replace hM := lt_to hz389 hM
  refine draw_begin (vals := [some (str x379), some (.int .u8 ((rd x379 (0 : Int)).toNat : Int)), some (.int .i64 (wr .i64 ((rd x379 (0 : Int)).toNat : Int))), some (str x379), some (.int .u8 ((rd x379 (1 : Int)).toNat : Int)), some (.int .i64 (wr .i64 ((rd x379 (1 : Int)).toNat : Int))), some (.int .i64 (ishl .i64 (wr .i64 ((rd x379 (1 : Int)).toNat : Int)) (8 : Int))), some (.int .i64 (ior .i64 (wr .i64 ((rd x379 (0 : Int)).toNat : Int)) (ishl .i64 (wr .i64 ((rd x379 (1 : Int)).toNat : Int)) (8 : Int)))), some (.int .i64 n_388)]) hS mixed rfl ?_
  intro l w ho hcl hA hst
  refine phaseE (vals := [some (str x379), some (.int .u8 ((rd x379 (0 : Int)).toNat : Int)), some (.int .i64 (wr .i64 ((rd x379 (0 : Int)).toNat : Int))), some (str x379), some (.int .u8 ((rd x379 (1 : Int)).toNat : Int)), some (.int .i64 (wr .i64 ((rd x379 (1 : Int)).toNat : Int))), some (.int .i64 (ishl .i64 (wr .i64 ((rd x379 (1 : Int)).toNat : Int)) (8 : Int))), some (.int .i64 (ior .i64 (wr .i64 ((rd x379 (0 : Int)).toNat : Int)) (ishl .i64 (wr .i64 ((rd x379 (1 : Int)).toNat : Int)) (8 : Int)))), some (.int .i64 n_388)]) [] [0, 1, 2, 3, 4, 5, 6, 7, 8] rfl rfl rfl (by exact ⟨nR rfl rfl rfl rfl rfl (by exact ovE (mv rfl) rfl), nR rfl rfl rfl rfl rfl (by exact ovE (ixs rfl rfl Tryd.runUnderlying9 hk385) rfl), nR rfl rfl rfl rfl rfl (by exact ovE (cvi rfl Tryd.runUnderlying5 Tryd.runUnderlying3) rfl), nR rfl rfl rfl rfl rfl (by exact ovE (mv rfl) rfl), nR rfl rfl rfl rfl rfl (by exact ovE (ixs rfl rfl Tryd.runUnderlying9 hk387) rfl), nR rfl rfl rfl rfl rfl (by exact ovE (cvi rfl Tryd.runUnderlying5 Tryd.runUnderlying3) rfl), nR rfl rfl rfl rfl rfl (by exact ovE (shl rfl rfl rfl) rfl), nR rfl rfl rfl rfl rfl (by exact ovE (bin rfl rfl rfl) rfl), nR rfl rfl rfl rfl rfl (by exact ovE (asg rfl) (congrArg (Value.int .i64) hz389.symm)), trivial⟩) (fun a w hS => ?_) ho hcl (fun m hm => (List.not_mem_nil hm).elim) hA hst
  replace hS := hS.env2 (e' := [(0, ptr b337 0), (2, str x379), (4, .int .i64 n_388)]) ⟨rfl, rfl, rfl, trivial⟩
  refine then_n ?_
  refine wp_seq ?_
  obtain ⟨hk391, hM⟩ := wp_chk hM
  obtain ⟨hk393, hM⟩ := wp_chk hM
  refine draw_begin (vals := [some (str x379), some (.int .u8 ((rd x379 (2 : Int)).toNat : Int)), some (.int .i64 (wr .i64 ((rd x379 (2 : Int)).toNat : Int))), some (str x379), some (.int .u8 ((rd x379 (3 : Int)).toNat : Int)), some (.int .i64 (wr .i64 ((rd x379 (3 : Int)).toNat : Int))), some (.int .i64 (ishl .i64 (wr .i64 ((rd x379 (3 : Int)).toNat : Int)) (8 : Int))), some (.int .i64 (ior .i64 (wr .i64 ((rd x379 (2 : Int)).toNat : Int)) (ishl .i64 (wr .i64 ((rd x379 (3 : Int)).toNat : Int)) (8 : Int)))), some (.int .i64 n_388), some (.int .i64 (ixor .i64 n_388 (65535 : Int))), some (.bool ((ior .i64 (wr .i64 ((rd x379 (2 : Int)).toNat : Int)) (ishl .i64 (wr .i64 ((rd x379 (3 : Int)).toNat : Int)) (8 : Int))) != (ixor .i64 n_388 (65535 : Int)))), none]) hS mixed rfl ?_
  intro l w ho hcl hA hst
  refine phase' (vals := [some (str x379), some (.int .u8 ((rd x379 (2 : Int)).toNat : Int)), some (.int .i64 (wr .i64 ((rd x379 (2 : Int)).toNat : Int))), some (str x379), some (.int .u8 ((rd x379 (3 : Int)).toNat : Int)), some (.int .i64 (wr .i64 ((rd x379 (3 : Int)).toNat : Int))), some (.int .i64 (ishl .i64 (wr .i64 ((rd x379 (3 : Int)).toNat : Int)) (8 : Int))), some (.int .i64 (ior .i64 (wr .i64 ((rd x379 (2 : Int)).toNat : Int)) (ishl .i64 (wr .i64 ((rd x379 (3 : Int)).toNat : Int)) (8 : Int)))), some (.int .i64 n_388), some (.int .i64 (ixor .i64 n_388 (65535 : Int))), some (.bool ((ior .i64 (wr .i64 ((rd x379 (2 : Int)).toNat : Int)) (ishl .i64 (wr .i64 ((rd x379 (3 : Int)).toNat : Int)) (8 : Int))) != (ixor .i64 n_388 (65535 : Int)))), none]) 11 [] [0, 1, 2, 3, 4, 5, 6, 7, 8, 9, 10] rfl rfl rfl rfl (by exact ⟨nR rfl rfl rfl rfl rfl (by exact ovE (mv rfl) rfl), nR rfl rfl rfl rfl rfl (by exact ovE (ixs rfl rfl Tryd.runUnderlying9 hk391) rfl), nR rfl rfl rfl rfl rfl (by exact ovE (cvi rfl Tryd.runUnderlying5 Tryd.runUnderlying3) rfl), nR rfl rfl rfl rfl rfl (by exact ovE (mv rfl) rfl), nR rfl rfl rfl rfl rfl (by exact ovE (ixs rfl rfl Tryd.runUnderlying9 hk393) rfl), nR rfl rfl rfl rfl rfl (by exact ovE (cvi rfl Tryd.runUnderlying5 Tryd.runUnderlying3) rfl), nR rfl rfl rfl rfl rfl (by exact ovE (shl rfl rfl rfl) rfl), nR rfl rfl rfl rfl rfl (by exact ovE (bin rfl rfl rfl) rfl), nR rfl rfl rfl rfl rfl (by exact ovE (mv rfl) rfl), nR rfl rfl rfl rfl rfl (by exact ovE (bin rfl rfl rfl) rfl), nR rfl rfl rfl rfl rfl (by exact ovE (bin rfl rfl rfl) rfl), trivial⟩) (fun D l a w ho hcl hav hpre hm hE hk hA hst => ?_) ho hcl (fun j hj => (List.not_mem_nil hj).elim) (fun m hm => (List.not_mem_nil hm).elim) List.not_mem_nil hA hst
  have hS := (Ss.mk hE hst).env2 (e' := [(34, .bool ((ior .i64 (wr .i64 ((rd x379 (2 : Int)).toNat : Int)) (ishl .i64 (wr .i64 ((rd x379 (3 : Int)).toNat : Int)) (8 : Int))) != (ixor .i64 n_388 (65535 : Int))))]) ⟨rfl, trivial⟩
  refine op_of_nth rfl ?_
  refine s_call hS rfl Tryd.call26 (inflate_refuse_c hG K ((ior .i64 (wr .i64 ((rd x379 (2 : Int)).toNat : Int)) (ishl .i64 (wr .i64 ((rd x379 (3 : Int)).toNat : Int)) (8 : Int))) != (ixor .i64 n_388 (65535 : Int))) (3 : Int) (hS.st.part 0 [0, 1, 2] (by kernel_rfl)) (wp_bind hM) (fun  w hM  hst => s_back hS.ev hst.appF rfl fun hS => ?_) (fun v w hk hst => s_pan (then_pan (then_pan (⟨hS.ev.defs, hpan _ _ hk hst.appF.frame⟩)))))
  replace hS : Ss _ _ _ H [f382, f338, f345] F _ _ := hS
  refine wpList_nil (then_n ?_)
  have hcl2 := hcl.cons (k := 11) (nth_get rfl) hpre
  have hmust := must_cons (k := 11) hm (chain (k := 11) hcl (nth_get rfl) hpre [(10, 11), (7, 10), (9, 10), (2, 7), (6, 7), (8, 9), (1, 2), (5, 6), (0, 1), (4, 5), (3, 4)] [] rfl (fun _ h => absurd h List.not_mem_nil))
  replace hst := hS.st
  have hav2 := hav.cons (vals' := [some (str x379), some (.int .u8 ((rd x379 (2 : Int)).toNat : Int)), some (.int .i64 (wr .i64 ((rd x379 (2 : Int)).toNat : Int))), some (str x379), some (.int .u8 ((rd x379 (3 : Int)).toNat : Int)), some (.int .i64 (wr .i64 ((rd x379 (3 : Int)).toNat : Int))), some (.int .i64 (ishl .i64 (wr .i64 ((rd x379 (3 : Int)).toNat : Int)) (8 : Int))), some (.int .i64 (ior .i64 (wr .i64 ((rd x379 (2 : Int)).toNat : Int)) (ishl .i64 (wr .i64 ((rd x379 (3 : Int)).toNat : Int)) (8 : Int)))), some (.int .i64 n_388), some (.int .i64 (ixor .i64 n_388 (65535 : Int))), some (.bool ((ior .i64 (wr .i64 ((rd x379 (2 : Int)).toNat : Int)) (ishl .i64 (wr .i64 ((rd x379 (3 : Int)).toNat : Int)) (8 : Int))) != (ixor .i64 n_388 (65535 : Int)))), some (.tuple ⟨[]⟩)]) (k := 11) ⟨rfl, rfl, rfl, rfl, rfl, rfl, rfl, rfl, rfl, rfl, rfl, trivial⟩ rfl
  replace hA := (hA.next hav (subV.get (l' := [some (str x379), some (.int .u8 ((rd x379 (2 : Int)).toNat : Int)), some (.int .i64 (wr .i64 ((rd x379 (2 : Int)).toNat : Int))), some (str x379), some (.int .u8 ((rd x379 (3 : Int)).toNat : Int)), some (.int .i64 (wr .i64 ((rd x379 (3 : Int)).toNat : Int))), some (.int .i64 (ishl .i64 (wr .i64 ((rd x379 (3 : Int)).toNat : Int)) (8 : Int))), some (.int .i64 (ior .i64 (wr .i64 ((rd x379 (2 : Int)).toNat : Int)) (ishl .i64 (wr .i64 ((rd x379 (3 : Int)).toNat : Int)) (8 : Int)))), some (.int .i64 n_388), some (.int .i64 (ixor .i64 n_388 (65535 : Int))), some (.bool ((ior .i64 (wr .i64 ((rd x379 (2 : Int)).toNat : Int)) (ishl .i64 (wr .i64 ((rd x379 (3 : Int)).toNat : Int)) (8 : Int))) != (ixor .i64 n_388 (65535 : Int)))), some (.tuple ⟨[]⟩)]) ⟨rfl, rfl, rfl, rfl, rfl, rfl, rfl, rfl, rfl, rfl, rfl, trivial⟩)).step rfl (nth_get rfl) hk rfl rfl rfl
  clear hm hav
  replace hcl := hcl2
  refine phaseE (vals := [some (str x379), some (.int .u8 ((rd x379 (2 : Int)).toNat : Int)), some (.int .i64 (wr .i64 ((rd x379 (2 : Int)).toNat : Int))), some (str x379), some (.int .u8 ((rd x379 (3 : Int)).toNat : Int)), some (.int .i64 (wr .i64 ((rd x379 (3 : Int)).toNat : Int))), some (.int .i64 (ishl .i64 (wr .i64 ((rd x379 (3 : Int)).toNat : Int)) (8 : Int))), some (.int .i64 (ior .i64 (wr .i64 ((rd x379 (2 : Int)).toNat : Int)) (ishl .i64 (wr .i64 ((rd x379 (3 : Int)).toNat : Int)) (8 : Int)))), some (.int .i64 n_388), some (.int .i64 (ixor .i64 n_388 (65535 : Int))), some (.bool ((ior .i64 (wr .i64 ((rd x379 (2 : Int)).toNat : Int)) (ishl .i64 (wr .i64 ((rd x379 (3 : Int)).toNat : Int)) (8 : Int))) != (ixor .i64 n_388 (65535 : Int)))), some (.tuple ⟨[]⟩)]) [11, 10, 7, 9, 2, 6, 8, 1, 5, 0, 4, 3] [] rfl rfl rfl trivial (fun a w hS => ?_) ho hcl hmust hA hst
  replace hS := hS.env2 (e' := [(0, ptr b337 0), (4, .int .i64 n_388)]) ⟨rfl, rfl, trivial⟩
  refine then_n ?_
  refine wp_seq ?_
  refine wp_region_list ?_
  refine st1 hS (mv rfl) rfl fun a w hS => ?_
  refine st1 hS (nck rfl) rfl fun a w hS => ?_
  refine st1 hS (fad rfl Tryd.runUnderlying44 rfl Tryd.sizeOf41 rfl) rfl fun a w hS => ?_
  refine st1 hS (ldb 1 rfl hB339 rfl rfl Tryd.isAgg41) rfl fun a w hS => ?_
  refine st1 hS (mv rfl) rfl fun a w hS => ?_
  refine s_call hS rfl Tryd.call35 (bits_Reader_Bytes_c hG K (T_bits_Reader.mk (T_bits_place.mk at_381) r336.Reader_.text_) n_388 b340 f382 h383 (hS.st.part 1 [0, 1, 2] (by kernel_rfl)) (wp_bind hM) (fun x397 x398 at_399 f400 w hM h401 hst => s_back hS.ev hst.appF rfl fun hS => ?_))
  replace hS : Ss _ _ _ H [f400, f338, f345] F _ _ := hS
  refine st1 hS (mv rfl) rfl fun a w hS => ?_
  refine st1 hS (ex rfl rfl) rfl fun a w hS => ?_
  refine st1 hS (ex rfl rfl) rfl fun a w hS => ?_
  refine st1 hS (asg rfl) rfl fun a w hS => ?_
  refine st1 hS (asg rfl) rfl fun a w hS => ?_
  refine wpList_nil ?_
  refine then_n ?_
  refine wp_seq ?_
  refine wp_region_list ?_
  refine st1 hS (mv rfl) rfl fun a w hS => ?_
  refine s_call hS rfl Tryd.call34 (inflate_must_c hG K x398 (hS.st.part 0 [0, 1, 2] (by kernel_rfl)) (wp_bind hM) (fun  w hM  hst => s_back hS.ev hst.appF rfl fun hS => ?_) (fun v w hk hst => s_pan (then_pan (⟨hS.ev.defs, hpan _ _ hk hst.appF.frame⟩))))
  replace hS : Ss _ _ _ H [f400, f338, f345] F _ _ := hS
  refine wpList_nil ?_
  refine then_n ?_
  refine wp_seq ?_
  refine draw_begin (vals := [some (ptr b337 0), some (ptr b337 0), some (ptr b337 1), some (.slice A343 r336.out_.length c344), some (.int .i64 (r336.out_.length : Int)), some (.int .i64 n_388), some (.int .i64 (w64 ((r336.out_.length : Int) + n_388))), some (ptr b337 0), some (ptr b337 0), some (ptr b337 2), some (.int .i64 r336.limit_), some (.bool (decide ((w64 ((r336.out_.length : Int) + n_388)) > r336.limit_))), none]) hS mixed rfl ?_
  intro l w ho hcl hA hst
  refine phase' (vals := [some (ptr b337 0), some (ptr b337 0), some (ptr b337 1), some (.slice A343 r336.out_.length c344), some (.int .i64 (r336.out_.length : Int)), some (.int .i64 n_388), some (.int .i64 (w64 ((r336.out_.length : Int) + n_388))), some (ptr b337 0), some (ptr b337 0), some (ptr b337 2), some (.int .i64 r336.limit_), some (.bool (decide ((w64 ((r336.out_.length : Int) + n_388)) > r336.limit_))), none]) 12 [] [0, 1, 2, 3, 4, 5, 6, 7, 8, 9, 10, 11] rfl rfl rfl rfl (by exact ⟨nR rfl rfl rfl rfl rfl (by exact ovE (mv rfl) rfl), nR rfl rfl rfl rfl rfl (by exact ovE (nck rfl) rfl), nR rfl rfl rfl rfl rfl (by exact ovE (fad rfl Tryd.runUnderlying44 rfl Tryd.sizeOf30 rfl) rfl), nR rfl rfl rfl rfl rfl (by exact ovE (ldb 1 rfl hB339 rfl rfl Tryd.isAgg30) rfl), nR rfl rfl rfl rfl rfl (by exact ovE (lenV rfl Tryd.runUnderlying30) rfl), nR rfl rfl rfl rfl rfl (by exact ovE (mv rfl) rfl), nR rfl rfl rfl rfl rfl (by exact ovE (bin rfl rfl rfl) rfl), nR rfl rfl rfl rfl rfl (by exact ovE (mv rfl) rfl), nR rfl rfl rfl rfl rfl (by exact ovE (nck rfl) rfl), nR rfl rfl rfl rfl rfl (by exact ovE (fad rfl Tryd.runUnderlying44 rfl Tryd.sizeOf3 rfl) rfl), nR rfl rfl rfl rfl rfl (by exact ovE (ldb 1 rfl hB339 rfl rfl Tryd.isAgg3) rfl), nR rfl rfl rfl rfl rfl (by exact ovE (bin rfl rfl rfl) rfl), trivial⟩) (fun D l a w ho hcl hav hpre hm hE hk hA hst => ?_) ho hcl (fun j hj => (List.not_mem_nil hj).elim) (fun m hm => (List.not_mem_nil hm).elim) List.not_mem_nil hA hst
  have hS := (Ss.mk hE hst).env2 (e' := [(58, .bool (decide ((w64 ((r336.out_.length : Int) + n_388)) > r336.limit_)))]) ⟨rfl, trivial⟩
  refine op_of_nth rfl ?_
  refine s_call hS rfl Tryd.call26 (inflate_refuse_c hG K (decide ((w64 ((r336.out_.length : Int) + n_388)) > r336.limit_)) (11 : Int) (hS.st.part 0 [0, 1, 2] (by kernel_rfl)) (wp_bind hM) (fun  w hM  hst => s_back hS.ev hst.appF rfl fun hS => ?_) (fun v w hk hst => s_pan (then_pan (then_pan (⟨hS.ev.defs, hpan _ _ hk hst.appF.frame⟩)))))
  replace hS : Ss _ _ _ H [f400, f338, f345] F _ _ := hS
  refine wpList_nil (then_n ?_)
  have hcl2 := hcl.cons (k := 12) (nth_get rfl) hpre
  have hmust := must_cons (k := 12) hm (chain (k := 12) hcl (nth_get rfl) hpre [(11, 12), (6, 11), (10, 11), (4, 6), (5, 6), (9, 10), (3, 4), (8, 9), (2, 3), (7, 8), (1, 2), (0, 1)] [] rfl (fun _ h => absurd h List.not_mem_nil))
  replace hst := hS.st
  have hav2 := hav.cons (vals' := [some (ptr b337 0), some (ptr b337 0), some (ptr b337 1), some (.slice A343 r336.out_.length c344), some (.int .i64 (r336.out_.length : Int)), some (.int .i64 n_388), some (.int .i64 (w64 ((r336.out_.length : Int) + n_388))), some (ptr b337 0), some (ptr b337 0), some (ptr b337 2), some (.int .i64 r336.limit_), some (.bool (decide ((w64 ((r336.out_.length : Int) + n_388)) > r336.limit_))), some (.tuple ⟨[]⟩)]) (k := 12) ⟨rfl, rfl, rfl, rfl, rfl, rfl, rfl, rfl, rfl, rfl, rfl, rfl, trivial⟩ rfl
  replace hA := (hA.next hav (subV.get (l' := [some (ptr b337 0), some (ptr b337 0), some (ptr b337 1), some (.slice A343 r336.out_.length c344), some (.int .i64 (r336.out_.length : Int)), some (.int .i64 n_388), some (.int .i64 (w64 ((r336.out_.length : Int) + n_388))), some (ptr b337 0), some (ptr b337 0), some (ptr b337 2), some (.int .i64 r336.limit_), some (.bool (decide ((w64 ((r336.out_.length : Int) + n_388)) > r336.limit_))), some (.tuple ⟨[]⟩)]) ⟨rfl, rfl, rfl, rfl, rfl, rfl, rfl, rfl, rfl, rfl, rfl, rfl, trivial⟩)).step rfl (nth_get rfl) hk rfl rfl rfl
  clear hm hav
  replace hcl := hcl2
  refine phaseE (vals := [some (ptr b337 0), some (ptr b337 0), some (ptr b337 1), some (.slice A343 r336.out_.length c344), some (.int .i64 (r336.out_.length : Int)), some (.int .i64 n_388), some (.int .i64 (w64 ((r336.out_.length : Int) + n_388))), some (ptr b337 0), some (ptr b337 0), some (ptr b337 2), some (.int .i64 r336.limit_), some (.bool (decide ((w64 ((r336.out_.length : Int) + n_388)) > r336.limit_))), some (.tuple ⟨[]⟩)]) [12, 11, 6, 10, 4, 5, 9, 3, 8, 2, 7, 1, 0] [] rfl rfl rfl trivial (fun a w hS => ?_) ho hcl hmust hA hst
  replace hS := hS.env2 (e' := [(0, ptr b337 0), (5, str x397)]) ⟨rfl, rfl, trivial⟩
  refine then_n ?_
  refine wp_region_list ?_
  refine st1 hS (mv rfl) rfl fun a w hS => ?_
  refine st1 hS (mv rfl) rfl fun a w hS => ?_
  refine st1 hS (nck rfl) rfl fun a w hS => ?_
  refine st1 hS (fad rfl Tryd.runUnderlying44 rfl Tryd.sizeOf30 rfl) rfl fun a w hS => ?_
  refine st1 hS (ldb 1 rfl hB339 rfl rfl Tryd.isAgg30) rfl fun a w hS => ?_
  refine st1 hS (mv rfl) rfl fun a w hS => ?_
  obtain ⟨hk402, hM⟩ := wp_chk hM
  refine apS 2 hS rfl rfl hV346 rfl Tryd.runUnderlying30 Tryd.runUnderlying9 X.el5 rfl hk402 rfl fun zs407 w A403 c404 f405 hz hV406 hS => ?_
  have hM := lt_to hz hM; clear hz
  refine st1 hS (nck rfl) rfl fun a w hS => ?_
  refine st1 hS (fad rfl Tryd.runUnderlying44 rfl Tryd.sizeOf30 rfl) rfl fun a w hS => ?_
  refine sto 1 ([ptr b340 0, .slice A403 zs407.length c404, .int .i64 r336.limit_]) hS rfl rfl hB339 rfl rfl rfl rfl Tryd.sizeOf30 fun w f408 hB409 hS => ?_
  refine wpList_nil ?_
  exact s_end (rs := []) hS rfl rfl (hret at_399 f400 A403 c404 zs407 f405 f408 w hM h401 hV406 hB409 (hS.st.pick [1, 0, 2] (by kernel_rfl)))

theorem huff_count_c {H : Imm} {F : List Frag} {w : World} {R : Ending → World → Prop} {kr : ((List Int) × Bool) → Prop} {kp : Value → Prop} (hG : Gl H) (K : Nat) (lengths545 : List Int) (A546 : Option Addr) (c547 : Nat) (hr548 : Rdl H [] F (ci .i64) A546 lengths545) (hc549 : lengths545.length ≤ c547)
    (hS : St w H [] F) (hm : (huff_count.m K lengths545).wp kr kp)
    (hret : ∀ (x603 : (List Int)) (x605 : Bool) (w : World), kr (x603, x605) → (x603.length = 16) → St w H [] F → R (.returned (.tuple ⟨[.agg ⟨x603.flatMap (ci .i64)⟩, .bool x605]⟩)) w) :
    Calls Tryd.prog 56 ⟨[.slice A546 lengths545.length c547]⟩ w R := by
  refine enter Tryd.func56 rfl Tryd.ntmps56 rfl hS fun a w hS => ?_
  have hM := hm; clear hm
  rw [huff_count.m] at hM
  refine wp_seq ?_
  refine wp_region_list ?_
  refine alc ((List.replicate 16 (0 : Int)).flatMap (ci .i64)) hS Tryd.zeroValue108 rfl rfl fun w b550 f551 hB552 hS => ?_
  refine st1 hS (asg rfl) rfl fun a w hS => ?_
  refine wpList_nil ?_
  refine then_n ?_
  refine wp_seq ?_
  refine wp_seq ?_
  refine wp_region_list ?_
  refine st1 hS (mv rfl) rfl fun a w hS => ?_
  refine st1 hS (lenV rfl Tryd.runUnderlying67) rfl fun a w hS => ?_
  refine st1 hS (bin rfl rfl rfl) rfl fun a w hS => ?_
  refine wpList_nil ?_
  refine then_n ?_
  refine s_cond hS rfl hM (fun hb553 hM => ?_) (fun hb553 hM => ?_)
  · refine wp_seq ?_
    refine wp_region_list ?_
    refine st1 hS (ldAr (xs := (List.replicate 16 (0 : Int))) (g := (ci .i64)) (pre := []) (post := []) 0 rfl hB552 rfl (by simp) rfl (flat_ln (g := (ci .i64)) (sz := 1) (fun _ => rfl) (List.length_replicate ..)) Tryd.isAgg108 Tryd.sizeOf108) rfl fun a w hS => ?_
    refine stAr (xs := (List.replicate 16 (0 : Int))) (ys := (List.replicate 16 (0 : Int))) (g := (ci .i64)) (pre := []) (post := []) 0 hS rfl rfl hB552 rfl (by simp) rfl (flat_ln (g := (ci .i64)) (sz := 1) (fun _ => rfl) (List.length_replicate ..)) (flat_ln (g := (ci .i64)) (sz := 1) (fun _ => rfl) (List.length_replicate ..)) (one_t3) Tryd.sizeOf108 fun w f554 hB555 hS => ?_
    replace hB555 : Blk f554 b550 ((List.replicate 16 (0 : Int)).flatMap (ci .i64)) 108 := by simpa using hB555
    refine st1 hS (asg rfl) rfl fun a w hS => ?_
    refine wpList_nil ?_
    refine then_n ?_
    refine wp_ret ?_
    refine then_ret ?_
    exact s_retC (vs := [.agg ⟨(List.replicate 16 (0 : Int)).flatMap (ci .i64)⟩, .bool false]) hS rfl (by exact ⟨rvR 0 rfl hB555 rfl (flat_ln (g := (ci .i64)) (sz := 1) (fun _ => rfl) (List.length_replicate ..)) Tryd.isAgg108 Tryd.sizeOf108, rvT rfl, trivial⟩) (hret (List.replicate 16 (0 : Int)) false w hM (List.length_replicate ..) (hS.st.pick [] (by kernel_rfl)))
  · refine wp_skip ?_
    refine then_n ?_
    refine seq_joinJ (fun a w => ∃ (c_592 : (List Int)) (f594 : Frag), Ss 31 [] [(2, ptr b550 0)] H [f594] F a w ∧ (c_592.length = 16) ∧ (Blk f594 b550 (c_592.flatMap (ci .i64)) 108) ∧ (huff_count.j2 K c_592).wp kr kp) (fun J596 hJ596 => ?_) ?_
    · refine wp_seq ?_
      refine wp_region_list ?_
      refine st1 hS (mv rfl) rfl fun a w hS => ?_
      refine st1 hS (lenV rfl Tryd.runUnderlying67) rfl fun a w hS => ?_
      refine st1 hS (mv rfl) rfl fun a w hS => ?_
      refine wpList_nil ?_
      refine then_n ?_
      refine wp_block ?_
      refine s_loopJ (fun k579 a w => ∃ (c_574 : (List Int)) (f576 : Frag) (v578 : Int), Ss 31 [] [(2, ptr b550 0), (10, .slice A546 lengths545.length c547), (11, .int .i64 (lengths545.length : Int)), (12, .int .i64 v578)] H [f576] F a w ∧ (c_574.length = 16) ∧ (Blk f576 b550 (c_574.flatMap (ci .i64)) 108) ∧ (huff_count.l1 K lengths545 k579 c_574 v578).wp kr kp) K ?_ ?_ ?_
      · exact ⟨(List.replicate 16 (0 : Int)), f551, (0 : Int), hS.to [0] (by kernel_rfl) ⟨rfl, rfl, rfl, rfl, trivial⟩, (List.length_replicate ..), hB552, hM⟩
      · intro a w hI; obtain ⟨_, _, _, _, _, _, hM⟩ := hI; exact hM
      · intro k579 a w hI J591 hJ591
        obtain ⟨c_574, f576, v578, hS, hl575, hB577, hM⟩ := hI
        rw [huff_count.l1] at hM
        refine wp_seq ?_
        refine wp_region_list ?_
        refine st1 hS (bin rfl rfl rfl) rfl fun a w hS => ?_
        refine wpList_nil ?_
        refine then_n ?_
        refine wp_seq ?_
        refine s_cond hS rfl hM (fun hb580 hM => ?_) (fun hb580 hM => ?_)
        · refine wp_skip ?_
          refine then_n ?_
          refine wp_seq ?_
          refine wp_block ?_
          refine wp_seq ?_
          refine wp_region_list ?_
          obtain ⟨hk581, hM⟩ := wp_chk hM
          refine st1 hS (ixV rfl rfl Tryd.runUnderlying67 Tryd.sizeOf3 hr548.wk (fun _ => rfl) rfl hk581) rfl fun a w hS => ?_
          refine st1 hS (ldV0 rfl hr548.wk (fun _ => rfl) hk581 rfl Tryd.isAgg3) rfl fun a w hS => ?_
          refine st1x (v := Value.int .i64) hS (asg rfl) rfl fun n_582 a w hz hS => ?_
          have hM := lt_to hz hM; clear hz
          refine wpList_nil ?_
          refine then_n ?_
          refine wp_seq ?_
          refine wp_seq ?_
          refine wp_region_list ?_
          refine st1 hS (mv rfl) rfl fun a w hS => ?_
          refine st1 hS (bin rfl rfl rfl) rfl fun a w hS => ?_
          refine st1 hS (mv rfl) rfl fun a w hS => ?_
          refine g_op 2 false 18 (b := (decide (n_582 < (0 : Int)))) (r := (decide (n_582 > (15 : Int)))) hS rfl rfl rfl rfl rfl rfl rfl (fun hb a w hS K hK => ?_) rfl fun a w hS => ?_
          · refine st1g hS rfl rfl rfl hb (mv rfl) rfl fun a w hS => ?_
            refine st1g hS rfl rfl rfl hb (bin rfl rfl rfl) rfl fun a w hS => ?_
            exact wpList_nil (hK _ _ (hS.up 2 rfl rfl))
          refine wpList_nil ?_
          refine then_n ?_
          refine s_cond hS rfl hM (fun hb583 hM => ?_) (fun hb583 hM => ?_)
          · refine wp_seq ?_
            refine wp_region_list ?_
            refine st1 hS (ldAr (xs := c_574) (g := (ci .i64)) (pre := []) (post := []) 0 rfl hB577 rfl (by simp) rfl (flat_ln (g := (ci .i64)) (sz := 1) (fun _ => rfl) hl575) Tryd.isAgg108 Tryd.sizeOf108) rfl fun a w hS => ?_
            refine stAr (xs := c_574) (ys := c_574) (g := (ci .i64)) (pre := []) (post := []) 0 hS rfl rfl hB577 rfl (by simp) rfl (flat_ln (g := (ci .i64)) (sz := 1) (fun _ => rfl) hl575) (flat_ln (g := (ci .i64)) (sz := 1) (fun _ => rfl) hl575) (one_t3) Tryd.sizeOf108 fun w f584 hB585 hS => ?_
            replace hB585 : Blk f584 b550 (c_574.flatMap (ci .i64)) 108 := by simpa using hB585
            refine st1 hS (asg rfl) rfl fun a w hS => ?_
            refine wpList_nil ?_
            refine then_n ?_
            refine wp_ret ?_
            refine then_ret (blk_ret (then_ret (then_ret (blk_ret (then_ret ?_)))))
            exact s_retC (vs := [.agg ⟨c_574.flatMap (ci .i64)⟩, .bool false]) hS rfl (by exact ⟨rvR 0 rfl hB585 rfl (flat_ln (g := (ci .i64)) (sz := 1) (fun _ => rfl) hl575) Tryd.isAgg108 Tryd.sizeOf108, rvT rfl, trivial⟩) (hret c_574 false w hM hl575 (hS.st.pick [] (by kernel_rfl)))
          · refine wp_skip ?_
            refine then_n ?_
            refine wp_region_list ?_
            refine st1 hS (mv rfl) rfl fun a w hS => ?_
            obtain ⟨hk586, hM⟩ := wp_chk hM
            refine st1 hS (ixB rfl rfl Tryd.runUnderlying108 Tryd.sizeOf3 hk586) rfl fun a w hS => ?_
            refine st1 hS (ldR (xs := c_574) (g := (ci .i64)) (pre := []) (post := []) 0 rfl hB577 rfl (by simp) rfl (fun _ => rfl) (inb_len hl575 hk586) rfl Tryd.isAgg3) rfl fun a w hS => ?_
            refine st1 hS (bin rfl rfl rfl) rfl fun a w hS => ?_
            refine st1 hS (ixB rfl rfl Tryd.runUnderlying108 Tryd.sizeOf3 hk586) rfl fun a w hS => ?_
            refine stR (xs := c_574) (g := (ci .i64)) (pre := []) (post := []) 0 ((w64 ((rd c_574 n_582) + (1 : Int)))) hS rfl rfl hB577 rfl (by simp) rfl (fun _ => rfl) (inb_len hl575 hk586) rfl Tryd.sizeOf3 (one_t3 _) fun zs589 w f587 hz hB588 hS => ?_
            have hl590 : zs589.length = 16 := by rw [hz, List.length_set]; exact hl575
            have hM := lt_to hz hM; clear hz
            replace hB588 : Blk f587 b550 (zs589.flatMap (ci .i64)) 108 := by simpa using hB588
            refine wpList_nil ?_
            refine blk_n (then_n ?_)
            refine wp_region_list ?_
            refine st1 hS (bin rfl rfl rfl) rfl fun a w hS => ?_
            refine st1 hS (mv rfl) rfl fun a w hS => ?_
            refine wpList_nil ?_
            refine then_n ?_
            exact hJ591 _ _ ⟨zs589, f587, (w64 (v578 + (1 : Int))), hS.to [0] (by kernel_rfl) ⟨rfl, rfl, rfl, rfl, trivial⟩, hl590, hB588, hM⟩
        · refine wp_exit ?_
          refine then_ex (then_ex (blk_same (then_n ?_)))
          exact hJ596 _ _ ⟨c_574, f576, hS.to [0] (by kernel_rfl) ⟨rfl, trivial⟩, hl575, hB577, hM⟩
    · intro a w hI
      obtain ⟨c_592, f594, hS, hl593, hB595, hM⟩ := hI
      rw [huff_count.j2] at hM
      refine wp_seq ?_
      refine wp_region_list ?_
      refine st1 hS (ixB rfl rfl Tryd.runUnderlying108 Tryd.sizeOf3 rfl) rfl fun a w hS => ?_
      refine stR (xs := c_592) (g := (ci .i64)) (pre := []) (post := []) 0 ((0 : Int)) hS rfl rfl hB595 rfl (by simp) rfl (fun _ => rfl) (inb_len hl593 rfl) rfl Tryd.sizeOf3 (one_t3 _) fun zs599 w f597 hz hB598 hS => ?_
      have hl600 : zs599.length = 16 := by rw [hz, List.length_set]; exact hl593
      have hM := lt_to hz hM; clear hz
      replace hB598 : Blk f597 b550 (zs599.flatMap (ci .i64)) 108 := by simpa using hB598
      refine wpList_nil ?_
      refine then_n ?_
      refine wp_seq ?_
      refine wp_region_list ?_
      refine st1 hS (ldAr (xs := zs599) (g := (ci .i64)) (pre := []) (post := []) 0 rfl hB598 rfl (by simp) rfl (flat_ln (g := (ci .i64)) (sz := 1) (fun _ => rfl) hl600) Tryd.isAgg108 Tryd.sizeOf108) rfl fun a w hS => ?_
      refine stAr (xs := zs599) (ys := zs599) (g := (ci .i64)) (pre := []) (post := []) 0 hS rfl rfl hB598 rfl (by simp) rfl (flat_ln (g := (ci .i64)) (sz := 1) (fun _ => rfl) hl600) (flat_ln (g := (ci .i64)) (sz := 1) (fun _ => rfl) hl600) (one_t3) Tryd.sizeOf108 fun w f601 hB602 hS => ?_
      replace hB602 : Blk f601 b550 (zs599.flatMap (ci .i64)) 108 := by simpa using hB602
      refine st1 hS (asg rfl) rfl fun a w hS => ?_
      refine wpList_nil ?_
      refine then_n ?_
      refine wp_ret ?_
      exact s_retC (vs := [.agg ⟨zs599.flatMap (ci .i64)⟩, .bool true]) hS rfl (by exact ⟨rvR 0 rfl hB602 rfl (flat_ln (g := (ci .i64)) (sz := 1) (fun _ => rfl) hl600) Tryd.isAgg108 Tryd.sizeOf108, rvT rfl, trivial⟩) (hret zs599 true w hM hl600 (hS.st.pick [] (by kernel_rfl)))

theorem huff_Check_c {H : Imm} {F : List Frag} {w : World} {R : Ending → World → Prop} {kr : Int → Prop} {kp : Value → Prop} (hG : Gl H) (K : Nat) (lengths540 : List Int) (A541 : Option Addr) (c542 : Nat) (hr543 : Rdl H [] F (ci .i64) A541 lengths540) (hc544 : lengths540.length ≤ c542)
    (hS : St w H [] F) (hm : (huff_Check.m K lengths540).wp kr kp)
    (hret : ∀ (x627 : Int) (w : World), kr x627 → St w H [] F → R (.returned (.int .i64 x627)) w) :
    Calls Tryd.prog 55 ⟨[.slice A541 lengths540.length c542]⟩ w R := by
  refine enter Tryd.func55 rfl Tryd.ntmps55 rfl hS fun a w hS => ?_
  have hM := hm; clear hm
  rw [huff_Check.m] at hM
  refine wp_seq ?_
  refine wp_region_list ?_
  refine st1 hS (asg rfl) rfl fun a w hS => ?_
  refine wpList_nil ?_
  refine then_n ?_
  refine wp_seq ?_
  refine wp_region_list ?_
  refine st1 hS (mv rfl) rfl fun a w hS => ?_
  refine s_call hS rfl Tryd.call56 (huff_count_c hG K lengths540 A541 c542 (hr543.app _) hc544 (hS.st.part 0 [] (by kernel_rfl)) (wp_bind hM) (fun x606 x607 w hM h608 hst => s_back hS.ev hst.appF rfl fun hS => ?_))
  replace hS : Ss _ _ _ H [] F _ _ := hS
  refine st1 hS (mv rfl) rfl fun a w hS => ?_
  refine st1 hS (ex rfl rfl) rfl fun a w hS => ?_
  refine st1 hS (ex rfl rfl) rfl fun a w hS => ?_
  refine alc ((List.replicate 16 (0 : Int)).flatMap (ci .i64)) hS Tryd.zeroValue108 rfl rfl fun w b609 f610 hB611 hS => ?_
  refine stAr (xs := (List.replicate 16 (0 : Int))) (ys := x606) (g := (ci .i64)) (pre := []) (post := []) 0 hS rfl rfl hB611 rfl (by simp) rfl (flat_ln (g := (ci .i64)) (sz := 1) (fun _ => rfl) (List.length_replicate ..)) (flat_ln (g := (ci .i64)) (sz := 1) (fun _ => rfl) h608) (one_t3) Tryd.sizeOf108 fun w f612 hB613 hS => ?_
  replace hB613 : Blk f612 b609 (x606.flatMap (ci .i64)) 108 := by simpa using hB613
  refine st1 hS (asg rfl) rfl fun a w hS => ?_
  refine wpList_nil ?_
  refine then_n ?_
  refine wp_seq ?_
  refine wp_seq ?_
  refine wp_region_list ?_
  refine st1 hS (mv rfl) rfl fun a w hS => ?_
  refine st1 hS (un rfl rfl) rfl fun a w hS => ?_
  refine wpList_nil ?_
  refine then_n ?_
  refine s_cond hS rfl hM (fun hb614 hM => ?_) (fun hb614 hM => ?_)
  · refine wp_seq ?_
    refine wp_region_list ?_
    refine st1 hS (asg rfl) rfl fun a w hS => ?_
    refine wpList_nil ?_
    refine then_n ?_
    refine wp_ret ?_
    refine then_ret ?_
    exact s_ret (rs := [2]) hS rfl rfl (hret (1 : Int) w hM (hS.st.pick [] (by kernel_rfl)))
  · refine wp_skip ?_
    refine then_n ?_
    refine wp_seq ?_
    refine wp_region_list ?_
    refine st1 hS (asg rfl) rfl fun a w hS => ?_
    refine wpList_nil ?_
    refine then_n ?_
    refine seq_joinJ (fun a w => ∃ (sum624 : Int), Ss 38 [] [(3, ptr b609 0), (5, .int .i64 sum624)] H [f612] F a w ∧ (huff_Check.j2 K x606 sum624).wp kr kp) (fun J625 hJ625 => ?_) ?_
    · refine wp_seq ?_
      refine wp_region_list ?_
      refine st1 hS (ldAr (xs := x606) (g := (ci .i64)) (pre := []) (post := []) 0 rfl hB613 rfl (by simp) rfl (flat_ln (g := (ci .i64)) (sz := 1) (fun _ => rfl) h608) Tryd.isAgg108 Tryd.sizeOf108) rfl fun a w hS => ?_
      refine st1 hS (mv rfl) rfl fun a w hS => ?_
      refine wpList_nil ?_
      refine then_n ?_
      refine wp_block ?_
      refine s_loopJ (fun k617 a w => ∃ (sum615 : Int) (v616 : Int), Ss 38 [] [(3, ptr b609 0), (5, .int .i64 sum615), (15, .agg ⟨x606.flatMap (ci .i64)⟩), (16, .int .i64 v616)] H [f612] F a w ∧ (huff_Check.l1 K x606 k617 sum615 v616).wp kr kp) K ?_ ?_ ?_
      · exact ⟨(0 : Int), (0 : Int), hS.to [0] (by kernel_rfl) ⟨rfl, rfl, rfl, rfl, trivial⟩, hM⟩
      · intro a w hI; obtain ⟨_, _, _, hM⟩ := hI; exact hM
      · intro k617 a w hI J623 hJ623
        obtain ⟨sum615, v616, hS, hM⟩ := hI
        rw [huff_Check.l1] at hM
        refine wp_seq ?_
        refine wp_region_list ?_
        refine st1 hS (bin rfl rfl rfl) rfl fun a w hS => ?_
        refine wpList_nil ?_
        refine then_n ?_
        refine wp_seq ?_
        refine s_cond hS rfl hM (fun hb618 hM => ?_) (fun hb618 hM => ?_)
        · refine wp_skip ?_
          refine then_n ?_
          refine wp_seq ?_
          refine wp_block ?_
          refine wp_seq ?_
          refine wp_region_list ?_
          refine st1 hS (mv rfl) rfl fun a w hS => ?_
          obtain ⟨hk619, hM⟩ := wp_chk hM
          refine st1 hS (ixA rfl rfl Tryd.runUnderlying108 Tryd.isAgg3 Tryd.sizeOf3 (fun _ => rfl) h608 hk619 rfl) rfl fun a w hS => ?_
          refine st1 hS (asg rfl) rfl fun a w hS => ?_
          refine st1x (v := Value.int .i64) hS (asg rfl) rfl fun k_620 a w hz hS => ?_
          have hM := lt_to hz hM; clear hz
          refine wpList_nil ?_
          refine then_n ?_
          refine wp_region_list ?_
          refine st1 hS (mv rfl) rfl fun a w hS => ?_
          refine st1 hS (mv rfl) rfl fun a w hS => ?_
          refine st1 hS (mv rfl) rfl fun a w hS => ?_
          obtain ⟨hk621, hM⟩ := wp_chk hM
          refine st1 hS (shr rfl rfl hk621) rfl fun a w hS => ?_
          refine st1 hS (bin rfl rfl rfl) rfl fun a w hS => ?_
          refine st1 hS (bin rfl rfl rfl) rfl fun a w hS => ?_
          refine st1x (v := Value.int .i64) hS (asg rfl) rfl fun sum622 a w hz hS => ?_
          have hM := lt_to hz hM; clear hz
          refine wpList_nil ?_
          refine blk_n (then_n ?_)
          refine wp_region_list ?_
          refine st1 hS (bin rfl rfl rfl) rfl fun a w hS => ?_
          refine st1 hS (mv rfl) rfl fun a w hS => ?_
          refine wpList_nil ?_
          refine then_n ?_
          exact hJ623 _ _ ⟨sum622, (w64 (v616 + (1 : Int))), hS.to [0] (by kernel_rfl) ⟨rfl, rfl, rfl, rfl, trivial⟩, hM⟩
        · refine wp_exit ?_
          refine then_ex (then_ex (blk_same (then_n ?_)))
          exact hJ625 _ _ ⟨sum615, hS.to [0] (by kernel_rfl) ⟨rfl, rfl, trivial⟩, hM⟩
    · intro a w hI
      obtain ⟨sum624, hS, hM⟩ := hI
      rw [huff_Check.j2] at hM
      refine wp_seq ?_
      refine wp_seq ?_
      refine wp_region_list ?_
      refine st1 hS (mv rfl) rfl fun a w hS => ?_
      refine st1 hS (bin rfl rfl rfl) rfl fun a w hS => ?_
      refine st1 hS (mv rfl) rfl fun a w hS => ?_
      refine g_op 2 false 29 (b := (sum624 == (0 : Int))) (r := (sum624 == (32768 : Int))) hS rfl rfl rfl rfl rfl rfl rfl (fun hb a w hS K hK => ?_) rfl fun a w hS => ?_
      · refine st1g hS rfl rfl rfl hb (mv rfl) rfl fun a w hS => ?_
        refine st1g hS rfl rfl rfl hb (bin rfl rfl rfl) rfl fun a w hS => ?_
        exact wpList_nil (hK _ _ (hS.up 2 rfl rfl))
      refine st1 hS (mv rfl) rfl fun a w hS => ?_
      refine g_op 3 false 33 (b := ((sum624 == (0 : Int)) || (sum624 == (32768 : Int)))) (r := (x606 == ([0, (1 : Int), 0, 0, 0, 0, 0, 0, 0, 0, 0, 0, 0, 0, 0, 0] : List Int))) hS rfl rfl rfl rfl rfl rfl rfl (fun hb a w hS K hK => ?_) rfl fun a w hS => ?_
      · refine st1g hS rfl rfl rfl hb (ldAr (xs := x606) (g := (ci .i64)) (pre := []) (post := []) 0 rfl hB613 rfl (by simp) rfl (flat_ln (g := (ci .i64)) (sz := 1) (fun _ => rfl) h608) Tryd.isAgg108 Tryd.sizeOf108) rfl fun a w hS => ?_
        refine st1g hS rfl rfl rfl hb (bldAr (([0, (1 : Int), 0, 0, 0, 0, 0, 0, 0, 0, 0, 0, 0, 0, 0, 0] : List Int).flatMap (ci .i64)) Tryd.zeroValue108 Tryd.runUnderlying108 Tryd.sizeOf3 rfl (by kernel_rfl)) rfl fun a w hS => ?_
        refine st1g hS rfl rfl rfl hb (eqArr rfl rfl Tryd.runUnderlying108 Tryd.runUnderlying3 Tryd.sizeOf3 Tryd.isAgg3 h608 rfl Tryd.eqGuardType108 rfl) rfl fun a w hS => ?_
        exact wpList_nil (hK _ _ (hS.up 3 rfl rfl))
      refine wpList_nil ?_
      refine then_n ?_
      refine s_cond hS rfl hM (fun hb626 hM => ?_) (fun hb626 hM => ?_)
      · refine wp_seq ?_
        refine wp_region_list ?_
        refine st1 hS (asg rfl) rfl fun a w hS => ?_
        refine wpList_nil ?_
        refine then_n ?_
        refine wp_ret ?_
        refine then_ret ?_
        exact s_ret (rs := [2]) hS rfl rfl (hret (0 : Int) w hM (hS.st.pick [] (by kernel_rfl)))
      · refine wp_skip ?_
        refine then_n ?_
        refine wp_seq ?_
        refine wp_region_list ?_
        refine st1 hS (asg rfl) rfl fun a w hS => ?_
        refine wpList_nil ?_
        refine then_n ?_
        refine wp_ret ?_
        exact s_ret (rs := [2]) hS rfl rfl (hret (3 : Int) w hM (hS.st.pick [] (by kernel_rfl)))

def T_huff_Table.Own (b770 : Nat) (x771 : T_huff_Table) (f779 : Frag) : Prop :=
  ∃ (f772 : Frag) (A775 : Option Addr) (c776 : Nat) (f777 : Frag), f779 = f772 ++ f777 ∧ Blk f772 b770 ((x771.counts_.flatMap (ci .i64)) ++ [.slice A775 x771.symbols_.length c776]) 110 ∧ x771.counts_.length = 16 ∧ Vec 3 (ci .i64) 1 A775 x771.symbols_ c776 f777

theorem huff_New_c {H : Imm} {F : List Frag} {w : World} {R : Ending → World → Prop} {kr : ((Option T_huff_Table) × Int) → Prop} {kp : Value → Prop} (hG : Gl H) (K : Nat) (lengths535 : List Int) (A536 : Option Addr) (c537 : Nat) (hr538 : Rdl H [] F (ci .i64) A536 lengths535) (hc539 : lengths535.length ≤ c537)
    (hS : St w H [] F) (hm : (huff_New.m K lengths535).wp kr kp)
    (hret : ∀ (A780 : Option Addr) (x781 : Option T_huff_Table) (f782 : Frag) (x784 : Int) (w : World), kr (x781, x784) → (Opt T_huff_Table.Own A780 x781 f782) → St w H [f782] F → R (.returned (.tuple ⟨[.pointer A780, .int .i64 x784]⟩)) w) :
    Calls Tryd.prog 49 ⟨[.slice A536 lengths535.length c537]⟩ w R := by
  refine enter Tryd.func49 rfl Tryd.ntmps49 rfl hS fun a w hS => ?_
  have hM := hm; clear hm
  rw [huff_New.m] at hM
  refine wp_seq ?_
  refine wp_region_list ?_
  refine st1 hS (asg rfl) rfl fun a w hS => ?_
  refine st1 hS (asg rfl) rfl fun a w hS => ?_
  refine wpList_nil ?_
  refine then_n ?_
  refine wp_seq ?_
  refine wp_seq ?_
  refine wp_region_list ?_
  refine st1 hS (mv rfl) rfl fun a w hS => ?_
  refine s_call hS rfl Tryd.call55 (huff_Check_c hG K lengths535 A536 c537 (hr538.app _) hc539 (hS.st.part 0 [] (by kernel_rfl)) (wp_bind hM) (fun x628 w hM  hst => s_back hS.ev hst.appF rfl fun hS => ?_))
  replace hS : Ss _ _ _ H [] F _ _ := hS
  refine st1 hS (asg rfl) rfl fun a w hS => ?_
  refine wpList_nil ?_
  refine then_n ?_
  refine wp_seq ?_
  refine wp_region_list ?_
  refine st1 hS (mv rfl) rfl fun a w hS => ?_
  refine st1 hS (bin rfl rfl rfl) rfl fun a w hS => ?_
  refine wpList_nil ?_
  refine then_n ?_
  refine s_cond hS rfl hM (fun hb629 hM => ?_) (fun hb629 hM => ?_)
  · refine wp_seq ?_
    refine wp_region_list ?_
    refine st1 hS (mv rfl) rfl fun a w hS => ?_
    refine st1 hS (asg rfl) rfl fun a w hS => ?_
    refine st1 hS (asg rfl) rfl fun a w hS => ?_
    refine wpList_nil ?_
    refine then_n ?_
    refine wp_ret ?_
    refine then_ret ?_
    replace hS := hS.nilF
    exact s_ret (rs := [2, 3]) hS rfl rfl (hret none none ([] : Frag) x628 w hM (.inl ⟨rfl, rfl, rfl⟩) (hS.st.pick [0] (by kernel_rfl)))
  · refine wp_skip ?_
    refine then_n ?_
    refine wp_seq ?_
    refine wp_region_list ?_
    refine st1 hS (bld (((List.replicate 16 (0 : Int)).flatMap (ci .i64)) ++ [.slice none 0 0]) [(0, 16), (16, 1)] Tryd.zeroValue110 Tryd.runUnderlying110 (by intro w; simp [Tryd.sizeOf108, Tryd.sizeOf67]) rfl rfl) rfl fun a w hS => ?_
    refine bx (((List.replicate 16 (0 : Int)).flatMap (ci .i64)) ++ [.slice none 0 0]) hS rfl rfl rfl fun w b630 f631 hB632 hS => ?_
    obtain ⟨f633, hV634, hS⟩ := hS.nilV 3 (ci .i64) 1
    refine st1 hS (asg rfl) rfl fun a w hS => ?_
    refine wpList_nil ?_
    refine then_n ?_
    refine wp_seq ?_
    refine wp_region_list ?_
    refine st1 hS (mv rfl) rfl fun a w hS => ?_
    refine st1 hS (mv rfl) rfl fun a w hS => ?_
    refine s_call hS rfl Tryd.call56 (huff_count_c hG K lengths535 A536 c537 (hr538.app _) hc539 (hS.st.part 0 [0, 1] (by kernel_rfl)) (wp_bind hM) (fun x635 x636 w hM h637 hst => s_back hS.ev hst.appF rfl fun hS => ?_))
    replace hS : Ss _ _ _ H [f633, f631] F _ _ := hS
    refine st1 hS (mv rfl) rfl fun a w hS => ?_
    refine st1 hS (ex rfl rfl) rfl fun a w hS => ?_
    refine st1 hS (ex rfl rfl) rfl fun a w hS => ?_
    refine st1 hS (nck rfl) rfl fun a w hS => ?_
    refine st1 hS (fad rfl Tryd.runUnderlying110 rfl Tryd.sizeOf108 rfl) rfl fun a w hS => ?_
    refine stAr (xs := (List.replicate 16 (0 : Int))) (ys := x635) (g := (ci .i64)) (pre := []) (post := [.slice none ([] : List Int).length (0)]) 1 hS rfl rfl hB632 rfl (by simp) rfl (flat_ln (g := (ci .i64)) (sz := 1) (fun _ => rfl) (List.length_replicate ..)) (flat_ln (g := (ci .i64)) (sz := 1) (fun _ => rfl) h637) (one_t3) Tryd.sizeOf108 fun w f638 hB639 hS => ?_
    replace hB639 : Blk f638 b630 ((x635.flatMap (ci .i64)) ++ [.slice none ([] : List Int).length (0)]) 110 := by simpa using hB639
    refine wpList_nil ?_
    refine then_n ?_
    refine wp_seq ?_
    refine wp_seq ?_
    refine wp_region_list ?_
    refine st1 hS (asg rfl) rfl fun a w hS => ?_
    refine wpList_nil ?_
    refine then_n ?_
    refine wp_block ?_
    refine s_loopJ (fun k713 a w => ∃ (A705 : Option Addr) (c706 : Nat) (symbols707 : (List Int)) (f708 : Frag) (f710 : Frag) (n_712 : Int), Ss 50 [] [(0, .slice A536 lengths535.length c537), (5, ptr b630 0), (6, .int .i64 n_712)] H [f710, f708] F a w ∧ (Vec 3 (ci .i64) 1 A705 symbols707 c706 f708) ∧ (Blk f710 b630 ((x635.flatMap (ci .i64)) ++ [.slice A705 symbols707.length c706]) 110) ∧ (huff_New.l1 K lengths535 x635 k713 symbols707 n_712).wp kr kp) K ?_ ?_ ?_
    · exact ⟨none, 0, ([] : List Int), f633, f638, (1 : Int), hS.to [1, 0] (by kernel_rfl) ⟨rfl, rfl, rfl, trivial⟩, hV634, hB639, hM⟩
    · intro a w hI; obtain ⟨_, _, _, _, _, _, _, _, _, hM⟩ := hI; exact hM
    · intro k713 a w hI J769 hJ769
      obtain ⟨A705, c706, symbols707, f708, f710, n_712, hS, hV709, hB711, hM⟩ := hI
      rw [huff_New.l1] at hM
      refine wp_seq ?_
      refine wp_seq ?_
      refine wp_region_list ?_
      refine st1 hS (mv rfl) rfl fun a w hS => ?_
      refine st1 hS (bin rfl rfl rfl) rfl fun a w hS => ?_
      refine wpList_nil ?_
      refine then_n ?_
      refine s_cond hS rfl hM (fun hb714 hM => ?_) (fun hb714 hM => ?_)
      · refine wp_skip ?_
        refine then_n ?_
        refine wp_seq ?_
        refine wp_block ?_
        refine wp_seq ?_
        refine wp_region_list ?_
        refine st1 hS (mv rfl) rfl fun a w hS => ?_
        refine st1 hS (lenV rfl Tryd.runUnderlying67) rfl fun a w hS => ?_
        refine st1 hS (mv rfl) rfl fun a w hS => ?_
        refine wpList_nil ?_
        refine then_n ?_
        refine wp_block ?_
        refine s_loopJ (fun k750 a w => ∃ (A742 : Option Addr) (c743 : Nat) (symbols744 : (List Int)) (f745 : Frag) (f747 : Frag) (v749 : Int), Ss 50 [] [(0, .slice A536 lengths535.length c537), (5, ptr b630 0), (6, .int .i64 n_712), (28, .slice A536 lengths535.length c537), (29, .int .i64 (lengths535.length : Int)), (30, .int .i64 v749)] H [f747, f745] F a w ∧ (Vec 3 (ci .i64) 1 A742 symbols744 c743 f745) ∧ (Blk f747 b630 ((x635.flatMap (ci .i64)) ++ [.slice A742 symbols744.length c743]) 110) ∧ (huff_New.l2 K (huff_New.l1 K lengths535 x635 k713) lengths535 n_712 k750 symbols744 v749).wp kr kp) K ?_ ?_ ?_
        · exact ⟨A705, c706, symbols707, f708, f710, (0 : Int), hS.to [0, 1] (by kernel_rfl) ⟨rfl, rfl, rfl, rfl, rfl, rfl, trivial⟩, hV709, hB711, hM⟩
        · intro a w hI; obtain ⟨_, _, _, _, _, _, _, _, _, hM⟩ := hI; exact hM
        · intro k750 a w hI J768 hJ768
          obtain ⟨A742, c743, symbols744, f745, f747, v749, hS, hV746, hB748, hM⟩ := hI
          rw [huff_New.l2] at hM
          refine wp_seq ?_
          refine wp_region_list ?_
          refine st1 hS (bin rfl rfl rfl) rfl fun a w hS => ?_
          refine wpList_nil ?_
          refine then_n ?_
          refine wp_seq ?_
          refine s_cond hS rfl hM (fun hb751 hM => ?_) (fun hb751 hM => ?_)
          · refine wp_skip ?_
            refine then_n ?_
            refine wp_seq ?_
            refine wp_block ?_
            refine wp_seq ?_
            refine wp_region_list ?_
            refine st1 hS (mv rfl) rfl fun a w hS => ?_
            obtain ⟨hk753, hM⟩ := wp_chk hM
            refine st1 hS (ixV rfl rfl Tryd.runUnderlying67 Tryd.sizeOf3 hr538.wk (fun _ => rfl) rfl hk753) rfl fun a w hS => ?_
            refine st1 hS (ldV0 rfl hr538.wk (fun _ => rfl) hk753 rfl Tryd.isAgg3) rfl fun a w hS => ?_
            refine st1 hS (asg rfl) rfl fun a w hS => ?_
            refine st1x (v := Value.int .i64) hS (asg rfl) rfl fun k_754 a w hz hS => ?_
            have hM := lt_to hz hM; clear hz
            refine wpList_nil ?_
            refine then_n ?_
            refine wp_seq ?_
            refine wp_region_list ?_
            refine st1 hS (mv rfl) rfl fun a w hS => ?_
            refine st1 hS (mv rfl) rfl fun a w hS => ?_
            refine st1 hS (bin rfl rfl rfl) rfl fun a w hS => ?_
            refine wpList_nil ?_
            refine then_n ?_
            refine s_cond hS rfl hM (fun hb755 hM => ?_) (fun hb755 hM => ?_)
            · refine wp_region_list ?_
              refine st1 hS (mv rfl) rfl fun a w hS => ?_
              refine st1 hS (mv rfl) rfl fun a w hS => ?_
              refine st1 hS (nck rfl) rfl fun a w hS => ?_
              refine st1 hS (fad rfl Tryd.runUnderlying110 rfl Tryd.sizeOf67 rfl) rfl fun a w hS => ?_
              refine st1 hS (ldP 0 rfl hB748 rfl (by rfl) (flat_ln (g := (ci .i64)) (sz := 1) (fun _ => rfl) h637) Tryd.isAgg67) rfl fun a w hS => ?_
              refine st1 hS (mv rfl) rfl fun a w hS => ?_
              refine bsl (g := (ci .i64)) ([v749] : List Int) [.int .i64 v749] hS Tryd.runUnderlying67 Tryd.sizeOf3 X.el3 rfl rfl rfl (by simp [Value.cells]) rfl rfl rfl rfl rfl fun w A756 c757 f758 hV759 hS => ?_
              obtain ⟨hk760, hM⟩ := wp_chk hM
              refine apV (ys := ([v749] : List Int)) 2 hS rfl rfl hV746 rfl (hV759.rd (i := 0) rfl) Tryd.runUnderlying67 Tryd.runUnderlying67 X.el3 (fun _ => rfl) rfl one_t3 hk760 rfl fun zs765 w A761 c762 f763 hz hV764 hS => ?_
              have hM := lt_to hz hM; clear hz
              refine st1 hS (nck rfl) rfl fun a w hS => ?_
              refine st1 hS (fad rfl Tryd.runUnderlying110 rfl Tryd.sizeOf67 rfl) rfl fun a w hS => ?_
              refine stP 1 hS rfl rfl hB748 rfl rfl (flat_ln (g := (ci .i64)) (sz := 1) (fun _ => rfl) h637) rfl Tryd.sizeOf67 fun w f766 hB767 hS => ?_
              refine wpList_nil ?_
              refine blk_n (then_n ?_)
              refine wp_region_list ?_
              refine st1 hS (bin rfl rfl rfl) rfl fun a w hS => ?_
              refine st1 hS (mv rfl) rfl fun a w hS => ?_
              refine wpList_nil ?_
              refine then_n ?_
              exact hJ768 _ _ ⟨A761, c762, zs765, f763, f766, (w64 (v749 + (1 : Int))), hS.to [1, 2] (by kernel_rfl) ⟨rfl, rfl, rfl, rfl, rfl, rfl, trivial⟩, hV764, hB767, hM⟩
            · refine wp_skip ?_
              refine blk_n (then_n ?_)
              refine wp_region_list ?_
              refine st1 hS (bin rfl rfl rfl) rfl fun a w hS => ?_
              refine st1 hS (mv rfl) rfl fun a w hS => ?_
              refine wpList_nil ?_
              refine then_n ?_
              exact hJ768 _ _ ⟨A742, c743, symbols744, f745, f747, (w64 (v749 + (1 : Int))), hS.to [0, 1] (by kernel_rfl) ⟨rfl, rfl, rfl, rfl, rfl, rfl, trivial⟩, hV746, hB748, hM⟩
          · refine wp_exit ?_
            refine then_ex (then_ex (blk_same (blk_n (then_n ?_))))
            refine wp_region_list ?_
            refine st1 hS (mv rfl) rfl fun a w hS => ?_
            refine st1 hS (bin rfl rfl rfl) rfl fun a w hS => ?_
            refine st1x (v := Value.int .i64) hS (asg rfl) rfl fun n_752 a w hz hS => ?_
            have hM := lt_to hz hM; clear hz
            refine wpList_nil ?_
            refine then_n ?_
            exact hJ769 _ _ ⟨A742, c743, symbols744, f745, f747, n_752, hS.to [0, 1] (by kernel_rfl) ⟨rfl, rfl, rfl, trivial⟩, hV746, hB748, hM⟩
      · refine wp_exit ?_
        refine then_ex (then_ex (blk_same (then_n ?_)))
        refine wp_seq ?_
        refine wp_region_list ?_
        refine st1 hS (mv rfl) rfl fun a w hS => ?_
        refine st1 hS (asg rfl) rfl fun a w hS => ?_
        refine st1 hS (asg rfl) rfl fun a w hS => ?_
        refine wpList_nil ?_
        refine then_n ?_
        refine wp_ret ?_
        replace hS := hS.front [0, 1] (by kernel_rfl)
        replace hS := hS.joinF
        exact s_ret (rs := [2, 3]) hS rfl rfl (hret (some ⟨b630, 0, none⟩) (some (T_huff_Table.mk x635 symbols707)) (f710 ++ f708) (0 : Int) w hM (.inr ⟨_, _, rfl, rfl, f710, A705, c706, f708, rfl, hB711, h637, hV709⟩) (hS.st.pick [0] (by kernel_rfl)))

theorem inflate_table_c {H : Imm} {F : List Frag} {w : World} {R : Ending → World → Prop} {kr : (Option T_huff_Table) → Prop} {kp : Value → Prop} (hG : Gl H) (K : Nat) (l_530 : List Int) (A531 : Option Addr) (c532 : Nat) (hr533 : Rdl H [] F (ci .i64) A531 l_530) (hc534 : l_530.length ≤ c532)
    (hS : St w H [] F) (hm : (inflate_table.m K l_530).wp kr kp)
    (hret : ∀ (A790 : Option Addr) (x791 : Option T_huff_Table) (f792 : Frag) (w : World), kr x791 → (Opt T_huff_Table.Own A790 x791 f792) → St w H [f792] F → R (.returned (.pointer A790)) w)
    (hpan : ∀ v w, kp v → St w H [] F → R (.panicked [⟨v, false, false⟩]) w) :
    Calls Tryd.prog 38 ⟨[.slice A531 l_530.length c532]⟩ w R := by
  refine enter Tryd.func38 rfl Tryd.ntmps38 rfl hS fun a w hS => ?_
  have hM := hm; clear hm
  rw [inflate_table.m] at hM
  refine wp_seq ?_
  refine wp_region_list ?_
  refine st1 hS (asg rfl) rfl fun a w hS => ?_
  refine wpList_nil ?_
  refine then_n ?_
  refine wp_seq ?_
  refine wp_region_list ?_
  refine st1 hS (mv rfl) rfl fun a w hS => ?_
  refine s_call hS rfl Tryd.call49 (huff_New_c hG K l_530 A531 c532 (hr533.app _) hc534 (hS.st.part 0 [] (by kernel_rfl)) (wp_bind hM) (fun A785 x786 f787 x788 w hM h789 hst => s_back hS.ev hst.appF rfl fun hS => ?_))
  replace hS : Ss _ _ _ H [f787] F _ _ := hS
  refine st1 hS (mv rfl) rfl fun a w hS => ?_
  refine st1 hS (ex rfl rfl) rfl fun a w hS => ?_
  refine st1 hS (ex rfl rfl) rfl fun a w hS => ?_
  refine st1 hS (asg rfl) rfl fun a w hS => ?_
  refine st1 hS (asg rfl) rfl fun a w hS => ?_
  refine wpList_nil ?_
  refine then_n ?_
  refine wp_seq ?_
  refine wp_region_list ?_
  refine st1 hS (mv rfl) rfl fun a w hS => ?_
  refine st1 hS (bin rfl rfl rfl) rfl fun a w hS => ?_
  refine s_call hS rfl Tryd.call26 (inflate_refuse_c hG K (x788 != (0 : Int)) (3 : Int) (hS.st.part 0 [0] (by kernel_rfl)) (wp_bind hM) (fun  w hM  hst => s_back hS.ev hst.appF rfl fun hS => ?_) (fun v w hk hst => s_pan (then_pan (⟨hS.ev.defs, hpan _ _ hk hst.appF.frame⟩))))
  replace hS : Ss _ _ _ H [f787] F _ _ := hS
  refine wpList_nil ?_
  refine then_n ?_
  refine wp_seq ?_
  refine wp_region_list ?_
  refine st1 hS (mv rfl) rfl fun a w hS => ?_
  refine st1 hS (asg rfl) rfl fun a w hS => ?_
  refine wpList_nil ?_
  refine then_n ?_
  refine wp_ret ?_
  exact s_ret (rs := [2]) hS rfl rfl (hret A785 x786 f787 w hM h789 (hS.st.pick [0] (by kernel_rfl)))

theorem inflate_fixed_c {H : Imm} {F : List Frag} {w : World} {R : Ending → World → Prop} {kr : ((Option T_huff_Table) × (Option T_huff_Table)) → Prop} {kp : Value → Prop} (hG : Gl H) (K : Nat)
    (hS : St w H [] F) (hm : (inflate_fixed.m K).wp kr kp)
    (hret : ∀ (A802 : Option Addr) (x803 : Option T_huff_Table) (f804 : Frag) (A806 : Option Addr) (x807 : Option T_huff_Table) (f808 : Frag) (w : World), kr (x803, x807) → (Opt T_huff_Table.Own A802 x803 f804) → (Opt T_huff_Table.Own A806 x807 f808) → St w H [f804, f808] F → R (.returned (.tuple ⟨[.pointer A802, .pointer A806]⟩)) w)
    (hpan : ∀ v w, kp v → St w H [] F → R (.panicked [⟨v, false, false⟩]) w) :
    Calls Tryd.prog 24 ⟨[]⟩ w R := by
  refine enter Tryd.func24 rfl Tryd.ntmps24 rfl hS fun a w hS => ?_
  have hM := hm; clear hm
  rw [inflate_fixed.m] at hM
  refine wp_seq ?_
  refine wp_region_list ?_
  refine st1 hS (asg rfl) rfl fun a w hS => ?_
  refine st1 hS (asg rfl) rfl fun a w hS => ?_
  refine wpList_nil ?_
  refine then_n ?_
  refine wp_seq ?_
  refine wp_region_list ?_
  refine alc ((List.replicate 288 (0 : Int)).flatMap (ci .i64)) hS Tryd.zeroValue86 (by kernel_rfl) rfl fun w b432 f433 hB434 hS => ?_
  refine wpList_nil ?_
  refine then_n ?_
  refine seq_joinJ (fun a w => ∃ (l_491 : (List Int)) (f493 : Frag), Ss 38 [] [(2, ptr b432 0)] H [f493] F a w ∧ (l_491.length = 288) ∧ (Blk f493 b432 (l_491.flatMap (ci .i64)) 86) ∧ (inflate_fixed.j3 K l_491).wp kr kp) (fun J495 hJ495 => ?_) ?_
  · refine wp_seq ?_
    refine wp_region_list ?_
    refine st1 hS (mv rfl) rfl fun a w hS => ?_
    refine wpList_nil ?_
    refine then_n ?_
    refine wp_block ?_
    refine s_loopJ (fun k468 a w => ∃ (l_463 : (List Int)) (f465 : Frag) (v467 : Int), Ss 38 [] [(2, ptr b432 0), (6, .int .i64 v467)] H [f465] F a w ∧ (l_463.length = 288) ∧ (Blk f465 b432 (l_463.flatMap (ci .i64)) 86) ∧ (inflate_fixed.l1 K k468 l_463 v467).wp kr kp) K ?_ ?_ ?_
    · exact ⟨(List.replicate 288 (0 : Int)), f433, (0 : Int), hS.to [0] (by kernel_rfl) ⟨rfl, rfl, trivial⟩, (List.length_replicate ..), hB434, hM⟩
    · intro a w hI; obtain ⟨_, _, _, _, _, _, hM⟩ := hI; exact hM
    · intro k468 a w hI J490 hJ490
      obtain ⟨l_463, f465, v467, hS, hl464, hB466, hM⟩ := hI
      rw [inflate_fixed.l1] at hM
      refine wp_seq ?_
      refine wp_region_list ?_
      refine st1 hS (bin rfl rfl rfl) rfl fun a w hS => ?_
      refine wpList_nil ?_
      refine then_n ?_
      refine wp_seq ?_
      refine s_cond hS rfl hM (fun hb469 hM => ?_) (fun hb469 hM => ?_)
      · refine wp_skip ?_
        refine then_n ?_
        refine wp_seq ?_
        refine wp_block ?_
        refine wp_seq ?_
        refine wp_region_list ?_
        refine st1 hS (mv rfl) rfl fun a w hS => ?_
        refine st1 hS (asg rfl) rfl fun a w hS => ?_
        refine wpList_nil ?_
        refine then_n ?_
        refine wp_seq ?_
        refine wp_region_list ?_
        refine st1 hS (mv rfl) rfl fun a w hS => ?_
        obtain ⟨hk470, hM⟩ := wp_chk hM
        refine st1 hS (ixB rfl rfl Tryd.runUnderlying86 Tryd.sizeOf3 hk470) rfl fun a w hS => ?_
        refine stR (xs := l_463) (g := (ci .i64)) (pre := []) (post := []) 0 ((8 : Int)) hS rfl rfl hB466 rfl (by simp) rfl (fun _ => rfl) (inb_len hl464 hk470) rfl Tryd.sizeOf3 (one_t3 _) fun zs473 w f471 hz hB472 hS => ?_
        have hl474 : zs473.length = 288 := by rw [hz, List.length_set]; exact hl464
        have hM := lt_to hz hM; clear hz
        replace hB472 : Blk f471 b432 (zs473.flatMap (ci .i64)) 86 := by simpa using hB472
        refine wpList_nil ?_
        refine then_n ?_
        refine seq_joinJ (fun a w => ∃ (l_480 : (List Int)) (f482 : Frag), Ss 38 [] [(2, ptr b432 0), (3, .int .i64 v467), (6, .int .i64 v467)] H [f482] F a w ∧ (l_480.length = 288) ∧ (Blk f482 b432 (l_480.flatMap (ci .i64)) 86) ∧ (inflate_fixed.j2 K (inflate_fixed.l1 K k468) v467 l_480).wp kr kp) (fun J484 hJ484 => ?_) ?_
        · refine wp_seq ?_
          refine wp_region_list ?_
          refine st1 hS (mv rfl) rfl fun a w hS => ?_
          refine st1 hS (bin rfl rfl rfl) rfl fun a w hS => ?_
          refine st1 hS (mv rfl) rfl fun a w hS => ?_
          refine g_op 2 true 13 (b := (decide (v467 ≥ (144 : Int)))) (r := (decide (v467 < (256 : Int)))) hS rfl rfl rfl rfl rfl rfl rfl (fun hb a w hS K hK => ?_) rfl fun a w hS => ?_
          · refine st1g hS rfl rfl rfl hb (mv rfl) rfl fun a w hS => ?_
            refine st1g hS rfl rfl rfl hb (bin rfl rfl rfl) rfl fun a w hS => ?_
            exact wpList_nil (hK _ _ (hS.up 2 rfl rfl))
          refine wpList_nil ?_
          refine then_n ?_
          refine s_cond hS rfl hM (fun hb475 hM => ?_) (fun hb475 hM => ?_)
          · refine wp_region_list ?_
            refine st1 hS (mv rfl) rfl fun a w hS => ?_
            refine st1 hS (ixB rfl rfl Tryd.runUnderlying86 Tryd.sizeOf3 hk470) rfl fun a w hS => ?_
            refine stR (xs := zs473) (g := (ci .i64)) (pre := []) (post := []) 0 ((9 : Int)) hS rfl rfl hB472 rfl (by simp) rfl (fun _ => rfl) (inb_len hl474 hk470) rfl Tryd.sizeOf3 (one_t3 _) fun zs478 w f476 hz hB477 hS => ?_
            have hl479 : zs478.length = 288 := by rw [hz, List.length_set]; exact hl474
            have hM := lt_to hz hM; clear hz
            replace hB477 : Blk f476 b432 (zs478.flatMap (ci .i64)) 86 := by simpa using hB477
            refine wpList_nil ?_
            refine then_n ?_
            exact hJ484 _ _ ⟨zs478, f476, hS.to [0] (by kernel_rfl) ⟨rfl, rfl, rfl, trivial⟩, hl479, hB477, hM⟩
          · refine wp_skip ?_
            refine then_n ?_
            exact hJ484 _ _ ⟨zs473, f471, hS.to [0] (by kernel_rfl) ⟨rfl, rfl, rfl, trivial⟩, hl474, hB472, hM⟩
        · intro a w hI
          obtain ⟨l_480, f482, hS, hl481, hB483, hM⟩ := hI
          rw [inflate_fixed.j2] at hM
          refine wp_seq ?_
          refine wp_region_list ?_
          refine st1 hS (mv rfl) rfl fun a w hS => ?_
          refine st1 hS (bin rfl rfl rfl) rfl fun a w hS => ?_
          refine st1 hS (mv rfl) rfl fun a w hS => ?_
          refine g_op 2 true 21 (b := (decide (v467 ≥ (256 : Int)))) (r := (decide (v467 < (280 : Int)))) hS rfl rfl rfl rfl rfl rfl rfl (fun hb a w hS K hK => ?_) rfl fun a w hS => ?_
          · refine st1g hS rfl rfl rfl hb (mv rfl) rfl fun a w hS => ?_
            refine st1g hS rfl rfl rfl hb (bin rfl rfl rfl) rfl fun a w hS => ?_
            exact wpList_nil (hK _ _ (hS.up 2 rfl rfl))
          refine wpList_nil ?_
          refine then_n ?_
          refine s_cond hS rfl hM (fun hb485 hM => ?_) (fun hb485 hM => ?_)
          · refine wp_region_list ?_
            refine st1 hS (mv rfl) rfl fun a w hS => ?_
            refine st1 hS (ixB rfl rfl Tryd.runUnderlying86 Tryd.sizeOf3 hk470) rfl fun a w hS => ?_
            refine stR (xs := l_480) (g := (ci .i64)) (pre := []) (post := []) 0 ((7 : Int)) hS rfl rfl hB483 rfl (by simp) rfl (fun _ => rfl) (inb_len hl481 hk470) rfl Tryd.sizeOf3 (one_t3 _) fun zs488 w f486 hz hB487 hS => ?_
            have hl489 : zs488.length = 288 := by rw [hz, List.length_set]; exact hl481
            have hM := lt_to hz hM; clear hz
            replace hB487 : Blk f486 b432 (zs488.flatMap (ci .i64)) 86 := by simpa using hB487
            refine wpList_nil ?_
            refine blk_n (then_n ?_)
            refine wp_region_list ?_
            refine st1 hS (bin rfl rfl rfl) rfl fun a w hS => ?_
            refine st1 hS (mv rfl) rfl fun a w hS => ?_
            refine wpList_nil ?_
            refine then_n ?_
            exact hJ490 _ _ ⟨zs488, f486, (w64 (v467 + (1 : Int))), hS.to [0] (by kernel_rfl) ⟨rfl, rfl, trivial⟩, hl489, hB487, hM⟩
          · refine wp_skip ?_
            refine blk_n (then_n ?_)
            refine wp_region_list ?_
            refine st1 hS (bin rfl rfl rfl) rfl fun a w hS => ?_
            refine st1 hS (mv rfl) rfl fun a w hS => ?_
            refine wpList_nil ?_
            refine then_n ?_
            exact hJ490 _ _ ⟨l_480, f482, (w64 (v467 + (1 : Int))), hS.to [0] (by kernel_rfl) ⟨rfl, rfl, trivial⟩, hl481, hB483, hM⟩
      · refine wp_exit ?_
        refine then_ex (then_ex (blk_same (then_n ?_)))
        exact hJ495 _ _ ⟨l_463, f465, hS.to [0] (by kernel_rfl) ⟨rfl, trivial⟩, hl464, hB466, hM⟩
  · intro a w hI
    obtain ⟨l_491, f493, hS, hl492, hB494, hM⟩ := hI
    rw [inflate_fixed.j3] at hM
    refine wp_seq ?_
    refine wp_region_list ?_
    refine alc ((List.replicate 32 (0 : Int)).flatMap (ci .i64)) hS Tryd.zeroValue87 rfl rfl fun w b496 f497 hB498 hS => ?_
    refine wpList_nil ?_
    refine then_n ?_
    refine seq_joinJ (fun a w => ∃ (d525 : (List Int)) (f527 : Frag), Ss 38 [] [(2, ptr b432 0), (4, ptr b496 0)] H [f493, f527] F a w ∧ (d525.length = 32) ∧ (Blk f527 b496 (d525.flatMap (ci .i64)) 87) ∧ (inflate_fixed.j5 K l_491 d525).wp kr kp) (fun J529 hJ529 => ?_) ?_
    · refine wp_seq ?_
      refine wp_region_list ?_
      refine st1 hS (mv rfl) rfl fun a w hS => ?_
      refine wpList_nil ?_
      refine then_n ?_
      refine wp_block ?_
      refine s_loopJ (fun k517 a w => ∃ (d512 : (List Int)) (f514 : Frag) (v516 : Int), Ss 38 [] [(2, ptr b432 0), (4, ptr b496 0), (28, .int .i64 v516)] H [f493, f514] F a w ∧ (d512.length = 32) ∧ (Blk f514 b496 (d512.flatMap (ci .i64)) 87) ∧ (inflate_fixed.l4 K l_491 k517 d512 v516).wp kr kp) K ?_ ?_ ?_
      · exact ⟨(List.replicate 32 (0 : Int)), f497, (0 : Int), hS.to [1, 0] (by kernel_rfl) ⟨rfl, rfl, rfl, trivial⟩, (List.length_replicate ..), hB498, hM⟩
      · intro a w hI; obtain ⟨_, _, _, _, _, _, hM⟩ := hI; exact hM
      · intro k517 a w hI J524 hJ524
        obtain ⟨d512, f514, v516, hS, hl513, hB515, hM⟩ := hI
        rw [inflate_fixed.l4] at hM
        refine wp_seq ?_
        refine wp_region_list ?_
        refine st1 hS (bin rfl rfl rfl) rfl fun a w hS => ?_
        refine wpList_nil ?_
        refine then_n ?_
        refine wp_seq ?_
        refine s_cond hS rfl hM (fun hb518 hM => ?_) (fun hb518 hM => ?_)
        · refine wp_skip ?_
          refine then_n ?_
          refine wp_seq ?_
          refine wp_block ?_
          refine wp_seq ?_
          refine wp_region_list ?_
          refine st1 hS (mv rfl) rfl fun a w hS => ?_
          refine st1 hS (asg rfl) rfl fun a w hS => ?_
          refine wpList_nil ?_
          refine then_n ?_
          refine wp_region_list ?_
          refine st1 hS (mv rfl) rfl fun a w hS => ?_
          obtain ⟨hk519, hM⟩ := wp_chk hM
          refine st1 hS (ixB rfl rfl Tryd.runUnderlying87 Tryd.sizeOf3 hk519) rfl fun a w hS => ?_
          refine stR (xs := d512) (g := (ci .i64)) (pre := []) (post := []) 1 ((5 : Int)) hS rfl rfl hB515 rfl (by simp) rfl (fun _ => rfl) (inb_len hl513 hk519) rfl Tryd.sizeOf3 (one_t3 _) fun zs522 w f520 hz hB521 hS => ?_
          have hl523 : zs522.length = 32 := by rw [hz, List.length_set]; exact hl513
          have hM := lt_to hz hM; clear hz
          replace hB521 : Blk f520 b496 (zs522.flatMap (ci .i64)) 87 := by simpa using hB521
          refine wpList_nil ?_
          refine blk_n (then_n ?_)
          refine wp_region_list ?_
          refine st1 hS (bin rfl rfl rfl) rfl fun a w hS => ?_
          refine st1 hS (mv rfl) rfl fun a w hS => ?_
          refine wpList_nil ?_
          refine then_n ?_
          exact hJ524 _ _ ⟨zs522, f520, (w64 (v516 + (1 : Int))), hS.to [0, 1] (by kernel_rfl) ⟨rfl, rfl, rfl, trivial⟩, hl523, hB521, hM⟩
        · refine wp_exit ?_
          refine then_ex (then_ex (blk_same (then_n ?_)))
          exact hJ529 _ _ ⟨d512, f514, hS.to [0, 1] (by kernel_rfl) ⟨rfl, rfl, trivial⟩, hl513, hB515, hM⟩
    · intro a w hI
      obtain ⟨d525, f527, hS, hl526, hB528, hM⟩ := hI
      rw [inflate_fixed.j5] at hM
      refine wp_seq ?_
      refine draw_begin (vals := [some (.slice (some ⟨b432, 0, none⟩) l_491.length (288)), none, some (.slice (some ⟨b496, 0, none⟩) d525.length (32)), none, none, none]) hS mixed rfl ?_
      intro l w ho hcl hA hst
      refine phase' (vals := [some (.slice (some ⟨b432, 0, none⟩) l_491.length (288)), none, some (.slice (some ⟨b496, 0, none⟩) d525.length (32)), none, none, none]) 1 [] [0, 2] rfl rfl rfl rfl (by exact ⟨nR rfl rfl rfl rfl rfl (by exact ovE (slA rfl Tryd.runUnderlying86 Tryd.sizeOf3 hl492 rfl) rfl), nR rfl rfl rfl rfl rfl (by exact ovE (slA rfl Tryd.runUnderlying87 Tryd.sizeOf3 hl526 rfl) rfl), trivial⟩) (fun D l a w ho hcl hav hpre hm hE hk hA hst => ?_) ho hcl (fun j hj => (List.not_mem_nil hj).elim) (fun m hm => (List.not_mem_nil hm).elim) List.not_mem_nil hA hst
      have hS := (Ss.mk hE hst).env2 (e' := [(34, .slice (some ⟨b432, 0, none⟩) l_491.length (288))]) ⟨rfl, trivial⟩
      refine op_of_nth rfl ?_
      refine s_call hS rfl Tryd.call38 (inflate_table_c hG K l_491 (some ⟨b432, 0, none⟩) (288) (hB494.rdF (i := 0) rfl rfl) (Nat.le_of_eq hl492) (hS.st.part 0 [0, 1] (by kernel_rfl)) (wp_bind hM) (fun A794 x795 f796 w hM h797 hst => s_back hS.ev hst.appF rfl fun hS => ?_) (fun v w hk hst => s_pan (then_pan (then_pan (⟨hS.ev.defs, hpan _ _ hk hst.appF.frame⟩)))))
      replace hS : Ss _ _ _ H [f796, f493, f527] F _ _ := hS
      refine wpList_nil (then_n ?_)
      have hcl2 := hcl.cons (k := 1) (nth_get rfl) hpre
      have hmust := must_cons (k := 1) hm (chain (k := 1) hcl (nth_get rfl) hpre [(0, 1)] [] rfl (fun _ h => absurd h List.not_mem_nil))
      replace hst := hS.st
      have hav2 := hav.cons (vals' := [some (.slice (some ⟨b432, 0, none⟩) l_491.length (288)), some (.pointer A794), some (.slice (some ⟨b496, 0, none⟩) d525.length (32)), none, none, none]) (k := 1) ⟨rfl, rfl, trivial⟩ rfl
      replace hA := (hA.next hav (subV.get (l' := [some (.slice (some ⟨b432, 0, none⟩) l_491.length (288)), some (.pointer A794), some (.slice (some ⟨b496, 0, none⟩) d525.length (32)), none, none, none]) ⟨rfl, rfl, trivial⟩)).step rfl (nth_get rfl) hk rfl rfl rfl
      clear hm hav
      replace hcl := hcl2
      refine phase' (vals := [some (.slice (some ⟨b432, 0, none⟩) l_491.length (288)), some (.pointer A794), some (.slice (some ⟨b496, 0, none⟩) d525.length (32)), none, none, none]) 3 [1, 0] [2] rfl rfl rfl rfl (by exact ⟨nR rfl rfl rfl rfl rfl (by exact ovE (slA rfl Tryd.runUnderlying87 Tryd.sizeOf3 hl526 rfl) rfl), trivial⟩) (fun D l a w ho hcl hav hpre hm hE hk hA hst => ?_) ho hcl hav2 hmust (hav2.notin rfl) hA hst
      have hS := (Ss.mk hE hst).env2 (e' := [(36, .slice (some ⟨b496, 0, none⟩) d525.length (32))]) ⟨rfl, trivial⟩
      refine op_of_nth rfl ?_
      refine s_call hS rfl Tryd.call38 (inflate_table_c hG K d525 (some ⟨b496, 0, none⟩) (32) (hB528.rdF (i := 2) rfl rfl) (Nat.le_of_eq hl526) (hS.st.part 0 [0, 1, 2] (by kernel_rfl)) (wp_bind hM) (fun A798 x799 f800 w hM h801 hst => s_back hS.ev hst.appF rfl fun hS => ?_) (fun v w hk hst => s_pan (then_pan (then_pan (⟨hS.ev.defs, hpan _ _ hk hst.appF.frame⟩)))))
      replace hS : Ss _ _ _ H [f800, f796, f493, f527] F _ _ := hS
      refine wpList_nil (then_n ?_)
      have hcl2 := hcl.cons (k := 3) (nth_get rfl) hpre
      have hmust := must_cons (k := 3) hm (chain (k := 3) hcl (nth_get rfl) hpre [(1, 3), (2, 3), (0, 1)] [] rfl (fun _ h => absurd h List.not_mem_nil))
      replace hst := hS.st
      have hav2 := hav.cons (vals' := [some (.slice (some ⟨b432, 0, none⟩) l_491.length (288)), some (.pointer A794), some (.slice (some ⟨b496, 0, none⟩) d525.length (32)), some (.pointer A798), some (.pointer A794), some (.pointer A798)]) (k := 3) ⟨rfl, rfl, rfl, trivial⟩ rfl
      replace hA := (hA.next hav (subV.get (l' := [some (.slice (some ⟨b432, 0, none⟩) l_491.length (288)), some (.pointer A794), some (.slice (some ⟨b496, 0, none⟩) d525.length (32)), some (.pointer A798), some (.pointer A794), some (.pointer A798)]) ⟨rfl, rfl, rfl, trivial⟩)).step rfl (nth_get rfl) hk rfl rfl rfl
      clear hm hav
      replace hcl := hcl2
      refine phaseE (vals := [some (.slice (some ⟨b432, 0, none⟩) l_491.length (288)), some (.pointer A794), some (.slice (some ⟨b496, 0, none⟩) d525.length (32)), some (.pointer A798), some (.pointer A794), some (.pointer A798)]) [3, 1, 2, 0, 1, 0] [4, 5] rfl rfl rfl (by exact ⟨nR rfl rfl rfl rfl rfl (by exact ovE (asg rfl) rfl), nR rfl rfl rfl rfl rfl (by exact ovE (asg rfl) rfl), trivial⟩) (fun a w hS => ?_) ho hcl hmust hA hst
      replace hS := hS.env2 (e' := [(0, .pointer A794), (1, .pointer A798)]) ⟨rfl, rfl, trivial⟩
      refine then_n ?_
      refine wp_ret ?_
      exact s_ret (rs := [0, 1]) hS rfl rfl (hret A794 x795 f796 A798 x799 f800 w hM h797 h801 (hS.st.pick [1, 0] (by kernel_rfl)))

theorem huff_Table_Next_c {H : Imm} {F : List Frag} {w : World} {R : Ending → World → Prop} {kr : (Int × Int × Int) → Prop} {kp : Value → Prop} (hG : Gl H) (K : Nat) (t890 : T_huff_Table) (r899 : T_bits_Reader) (b891 : Nat) (f892 : Frag) (A895 : Option Addr) (c896 : Nat) (f897 : Frag) (b900 : Nat) (f901 : Frag) (hB893 : Blk f892 b891 ((t890.counts_.flatMap (ci .i64)) ++ [.slice A895 t890.symbols_.length c896]) 110) (hl894 : t890.counts_.length = 16) (hV898 : Vec 3 (ci .i64) 1 A895 t890.symbols_ c896 f897) (hB902 : Blk f901 b900 ([.int .i64 r899.place_.at_, str r899.text_]) 57)
    (hS : St w H [f892, f897, f901] F) (hm : (huff_Table_Next.m K t890 r899).wp kr kp)
    (hret : ∀ (x973 : Int) (x974 : Int) (at_975 : Int) (f976 : Frag) (w : World), kr (x973, x974, at_975) → (Blk f976 b900 ([.int .i64 at_975, str r899.text_]) 57) → St w H [f976, f892, f897] F → R (.returned (.tuple ⟨[.int .i64 x973, .int .i64 x974]⟩)) w) :
    Calls Tryd.prog 48 ⟨[ptr b891 0, ptr b900 0]⟩ w R := by
  refine enter Tryd.func48 rfl Tryd.ntmps48 rfl hS fun a w hS => ?_
  have hM := hm; clear hm
  rw [huff_Table_Next.m] at hM
  refine wp_seq ?_
  refine wp_region_list ?_
  refine st1 hS (asg rfl) rfl fun a w hS => ?_
  refine st1 hS (asg rfl) rfl fun a w hS => ?_
  refine wpList_nil ?_
  refine then_n ?_
  refine wp_seq ?_
  refine wp_seq ?_
  refine wp_region_list ?_
  refine st1 hS (mv rfl) rfl fun a w hS => ?_
  refine st1 hS (eqNil rfl rfl Tryd.runUnderlying60) rfl fun a w hS => ?_
  refine st1 hS (mv rfl) rfl fun a w hS => ?_
  refine st1g hS rfl rfl rfl rfl (mv rfl) rfl fun a w hS => ?_
  refine st1g hS rfl rfl rfl rfl (eqNil rfl rfl Tryd.runUnderlying41) rfl fun a w hS => ?_
  refine st1 hS (pk rfl rfl rfl) rfl fun a w hS => ?_
  refine wpList_nil ?_
  refine then_n ?_
  refine s_condF hS rfl ?_
  refine wp_skip ?_
  refine then_n ?_
  refine wp_seq ?_
  refine wp_region_list ?_
  refine st1 hS (mv rfl) rfl fun a w hS => ?_
  refine st1 hS (nck rfl) rfl fun a w hS => ?_
  refine st1 hS (ldbA 2 rfl hB902 rfl ([.int .i64 r899.place_.at_, str r899.text_]) rfl rfl Tryd.isAgg57 Tryd.sizeOf57) rfl fun a w hS => ?_
  refine alc ([.int .i64 (0 : Int), str ([] : List UInt8)]) hS Tryd.zeroValue57 rfl rfl fun w b903 f904 hB905 hS => ?_
  refine stB 0 ([.int .i64 r899.place_.at_, str r899.text_]) ([.int .i64 r899.place_.at_, str r899.text_]) hS rfl rfl hB905 rfl rfl Tryd.sizeOf57 (by simp [Value.oneCell']) (Nat.le_of_ble_eq_true rfl) rfl fun w f906 hB907 hS => ?_
  refine wpList_nil ?_
  refine then_n ?_
  refine wp_seq ?_
  refine wp_region_list ?_
  refine st1 hS (asg rfl) rfl fun a w hS => ?_
  refine st1 hS (asg rfl) rfl fun a w hS => ?_
  refine st1 hS (asg rfl) rfl fun a w hS => ?_
  refine wpList_nil ?_
  refine then_n ?_
  refine seq_joinJ (fun a w => ∃ (at_967 : Int) (f968 : Frag), Ss 81 [] [(1, ptr b900 0), (6, ptr b903 0)] H [f968, f892, f897, f906] F a w ∧ (Blk f968 b900 ([.int .i64 at_967, str r899.text_]) 57) ∧ (huff_Table_Next.j2 K r899 at_967).wp kr kp) (fun J970 hJ970 => ?_) ?_
  · refine wp_seq ?_
    refine wp_region_list ?_
    refine st1 hS (asg rfl) rfl fun a w hS => ?_
    refine wpList_nil ?_
    refine then_n ?_
    refine wp_block ?_
    refine s_loopJ (fun k946 a w => ∃ (at_939 : Int) (f940 : Frag) (code942 : Int) (first943 : Int) (passed944 : Int) (n_945 : Int), Ss 81 [] [(0, ptr b891 0), (1, ptr b900 0), (6, ptr b903 0), (7, .int .i64 code942), (8, .int .i64 first943), (9, .int .i64 passed944), (10, .int .i64 n_945)] H [f940, f892, f897, f906] F a w ∧ (Blk f940 b900 ([.int .i64 at_939, str r899.text_]) 57) ∧ (huff_Table_Next.l1 K t890 r899 k946 at_939 code942 first943 passed944 n_945).wp kr kp) K ?_ ?_ ?_
    · exact ⟨r899.place_.at_, f901, (0 : Int), (0 : Int), (0 : Int), (1 : Int), hS.to [3, 1, 2, 0] (by kernel_rfl) ⟨rfl, rfl, rfl, rfl, rfl, rfl, rfl, trivial⟩, hB902, hM⟩
    · intro a w hI; obtain ⟨_, _, _, _, _, _, _, _, hM⟩ := hI; exact hM
    · intro k946 a w hI J966 hJ966
      obtain ⟨at_939, f940, code942, first943, passed944, n_945, hS, hB941, hM⟩ := hI
      rw [huff_Table_Next.l1] at hM
      refine wp_seq ?_
      refine wp_seq ?_
      refine wp_region_list ?_
      refine st1 hS (mv rfl) rfl fun a w hS => ?_
      refine st1 hS (mv rfl) rfl fun a w hS => ?_
      refine st1 hS (nck rfl) rfl fun a w hS => ?_
      refine st1 hS (fad rfl Tryd.runUnderlying110 rfl Tryd.sizeOf67 rfl) rfl fun a w hS => ?_
      refine st1 hS (ldP 1 rfl hB893 rfl (by rfl) (flat_ln (g := (ci .i64)) (sz := 1) (fun _ => rfl) hl894) Tryd.isAgg67) rfl fun a w hS => ?_
      refine st1 hS (lenV rfl Tryd.runUnderlying67) rfl fun a w hS => ?_
      refine st1 hS (bin rfl rfl rfl) rfl fun a w hS => ?_
      refine wpList_nil ?_
      refine then_n ?_
      refine s_cond hS rfl hM (fun hb947 hM => ?_) (fun hb947 hM => ?_)
      · refine wp_skip ?_
        refine then_n ?_
        refine wp_seq ?_
        refine wp_block ?_
        refine wp_seq ?_
        refine wp_region_list ?_
        refine st1 hS (mv rfl) rfl fun a w hS => ?_
        refine s_call hS rfl Tryd.call33 (bits_Reader_Bits_c hG K (T_bits_Reader.mk (T_bits_place.mk at_939) r899.text_) (1 : Int) b900 f940 hB941 (hS.st.part 1 [0, 1, 2, 3] (by kernel_rfl)) (wp_bind hM) (fun x948 x949 at_950 f951 w hM h952 hst => s_back hS.ev hst.appF rfl fun hS => ?_))
        replace hS : Ss _ _ _ H [f951, f892, f897, f906] F _ _ := hS
        refine st1 hS (mv rfl) rfl fun a w hS => ?_
        refine st1 hS (ex rfl rfl) rfl fun a w hS => ?_
        refine st1 hS (ex rfl rfl) rfl fun a w hS => ?_
        refine st1 hS (asg rfl) rfl fun a w hS => ?_
        refine st1 hS (asg rfl) rfl fun a w hS => ?_
        refine wpList_nil ?_
        refine then_n ?_
        refine wp_seq ?_
        refine wp_seq ?_
        refine wp_region_list ?_
        refine st1 hS (mv rfl) rfl fun a w hS => ?_
        refine st1 hS (bin rfl rfl rfl) rfl fun a w hS => ?_
        refine wpList_nil ?_
        refine then_n ?_
        refine s_cond hS rfl hM (fun hb953 hM => ?_) (fun hb953 hM => ?_)
        · refine wp_seq ?_
          refine wp_region_list ?_
          refine st1 hS (mv rfl) rfl fun a w hS => ?_
          refine st1 hS (ldbA 3 rfl hB907 rfl ([.int .i64 r899.place_.at_, str r899.text_]) rfl rfl Tryd.isAgg57 Tryd.sizeOf57) rfl fun a w hS => ?_
          refine st1 hS (nck rfl) rfl fun a w hS => ?_
          refine stB 0 ([.int .i64 r899.place_.at_, str r899.text_]) ([.int .i64 r899.place_.at_, str r899.text_]) hS rfl rfl h952 rfl rfl Tryd.sizeOf57 (by simp [Value.oneCell']) (Nat.le_of_ble_eq_true rfl) rfl fun w f954 hB955 hS => ?_
          refine wpList_nil ?_
          refine then_n ?_
          refine wp_seq ?_
          refine wp_region_list ?_
          refine st1 hS (mv rfl) rfl fun a w hS => ?_
          refine st1 hS (asg rfl) rfl fun a w hS => ?_
          refine st1 hS (asg rfl) rfl fun a w hS => ?_
          refine wpList_nil ?_
          refine then_n ?_
          refine wp_ret ?_
          refine then_ret (blk_ret (then_ret (then_ret (blk_ret (then_ret ?_)))))
          exact s_ret (rs := [4, 5]) hS rfl rfl (hret (0 : Int) x949 r899.place_.at_ f954 w hM hB955 (hS.st.pick [0, 1, 2] (by kernel_rfl)))
        · refine wp_skip ?_
          refine then_n ?_
          refine wp_seq ?_
          refine wp_region_list ?_
          refine st1 hS (mv rfl) rfl fun a w hS => ?_
          refine st1 hS (shl rfl rfl rfl) rfl fun a w hS => ?_
          refine st1 hS (mv rfl) rfl fun a w hS => ?_
          refine st1 hS (cvi rfl Tryd.runUnderlying33 Tryd.runUnderlying3) rfl fun a w hS => ?_
          refine st1 hS (bin rfl rfl rfl) rfl fun a w hS => ?_
          refine st1x (v := Value.int .i64) hS (asg rfl) rfl fun code956 a w hz hS => ?_
          have hM := lt_to hz hM; clear hz
          refine wpList_nil ?_
          refine then_n ?_
          refine wp_seq ?_
          refine wp_region_list ?_
          refine st1 hS (mv rfl) rfl fun a w hS => ?_
          refine st1 hS (shl rfl rfl rfl) rfl fun a w hS => ?_
          refine st1x (v := Value.int .i64) hS (asg rfl) rfl fun first957 a w hz hS => ?_
          have hM := lt_to hz hM; clear hz
          refine wpList_nil ?_
          refine then_n ?_
          refine wp_seq ?_
          refine wp_region_list ?_
          refine st1 hS (mv rfl) rfl fun a w hS => ?_
          refine st1 hS (mv rfl) rfl fun a w hS => ?_
          refine st1 hS (nck rfl) rfl fun a w hS => ?_
          refine st1 hS (fad rfl Tryd.runUnderlying110 rfl Tryd.sizeOf108 rfl) rfl fun a w hS => ?_
          obtain ⟨hk958, hM⟩ := wp_chk hM
          refine st1 hS (ixB rfl rfl Tryd.runUnderlying108 Tryd.sizeOf3 hk958) rfl fun a w hS => ?_
          refine st1 hS (ldR (xs := t890.counts_) (g := (ci .i64)) (pre := []) (post := [.slice A895 t890.symbols_.length c896]) 1 rfl hB893 rfl (by simp) rfl (fun _ => rfl) (inb_len hl894 hk958) rfl Tryd.isAgg3) rfl fun a w hS => ?_
          refine st1x (v := Value.int .i64) hS (asg rfl) rfl fun k_959 a w hz hS => ?_
          have hM := lt_to hz hM; clear hz
          refine wpList_nil ?_
          refine then_n ?_
          refine wp_seq ?_
          refine wp_seq ?_
          refine wp_region_list ?_
          refine st1 hS (mv rfl) rfl fun a w hS => ?_
          refine st1 hS (mv rfl) rfl fun a w hS => ?_
          refine st1 hS (bin rfl rfl rfl) rfl fun a w hS => ?_
          refine st1 hS (mv rfl) rfl fun a w hS => ?_
          refine st1 hS (bin rfl rfl rfl) rfl fun a w hS => ?_
          refine wpList_nil ?_
          refine then_n ?_
          refine s_cond hS rfl hM (fun hb960 hM => ?_) (fun hb960 hM => ?_)
          · refine wp_seq ?_
            refine wp_region_list ?_
            refine st1 hS (mv rfl) rfl fun a w hS => ?_
            refine st1 hS (nck rfl) rfl fun a w hS => ?_
            refine st1 hS (fad rfl Tryd.runUnderlying110 rfl Tryd.sizeOf67 rfl) rfl fun a w hS => ?_
            refine st1 hS (ldP 1 rfl hB893 rfl (by rfl) (flat_ln (g := (ci .i64)) (sz := 1) (fun _ => rfl) hl894) Tryd.isAgg67) rfl fun a w hS => ?_
            refine st1 hS (mv rfl) rfl fun a w hS => ?_
            refine st1 hS (mv rfl) rfl fun a w hS => ?_
            refine st1 hS (bin rfl rfl rfl) rfl fun a w hS => ?_
            refine st1 hS (mv rfl) rfl fun a w hS => ?_
            refine st1 hS (bin rfl rfl rfl) rfl fun a w hS => ?_
            obtain ⟨hk961, hM⟩ := wp_chk hM
            refine st1 hS (ixV rfl rfl Tryd.runUnderlying67 Tryd.sizeOf3 (hV898.rd (i := 2) rfl) (fun _ => rfl) rfl hk961) rfl fun a w hS => ?_
            refine st1 hS (ldV0 rfl (hV898.rd (i := 2) rfl) (fun _ => rfl) hk961 rfl Tryd.isAgg3) rfl fun a w hS => ?_
            refine st1x (v := Value.int .i64) hS (asg rfl) rfl fun v962 a w hz hS => ?_
            have hM := lt_to hz hM; clear hz
            refine st1 hS (asg rfl) rfl fun a w hS => ?_
            refine wpList_nil ?_
            refine then_n ?_
            refine wp_ret ?_
            refine then_ret (blk_ret (then_ret (then_ret (blk_ret (then_ret ?_)))))
            exact s_ret (rs := [4, 5]) hS rfl rfl (hret v962 (0 : Int) at_950 f951 w hM h952 (hS.st.pick [0, 1, 2] (by kernel_rfl)))
          · refine wp_skip ?_
            refine then_n ?_
            refine wp_seq ?_
            refine wp_region_list ?_
            refine st1 hS (mv rfl) rfl fun a w hS => ?_
            refine st1 hS (mv rfl) rfl fun a w hS => ?_
            refine st1 hS (bin rfl rfl rfl) rfl fun a w hS => ?_
            refine st1x (v := Value.int .i64) hS (asg rfl) rfl fun first963 a w hz hS => ?_
            have hM := lt_to hz hM; clear hz
            refine wpList_nil ?_
            refine then_n ?_
            refine wp_region_list ?_
            refine st1 hS (mv rfl) rfl fun a w hS => ?_
            refine st1 hS (mv rfl) rfl fun a w hS => ?_
            refine st1 hS (bin rfl rfl rfl) rfl fun a w hS => ?_
            refine st1x (v := Value.int .i64) hS (asg rfl) rfl fun passed964 a w hz hS => ?_
            have hM := lt_to hz hM; clear hz
            refine wpList_nil ?_
            refine blk_n (then_n ?_)
            refine wp_region_list ?_
            refine st1 hS (mv rfl) rfl fun a w hS => ?_
            refine st1 hS (bin rfl rfl rfl) rfl fun a w hS => ?_
            refine st1x (v := Value.int .i64) hS (asg rfl) rfl fun n_965 a w hz hS => ?_
            have hM := lt_to hz hM; clear hz
            refine wpList_nil ?_
            refine then_n ?_
            exact hJ966 _ _ ⟨at_950, f951, code956, first963, passed964, n_965, hS.to [0, 1, 2, 3] (by kernel_rfl) ⟨rfl, rfl, rfl, rfl, rfl, rfl, rfl, trivial⟩, h952, hM⟩
      · refine wp_exit ?_
        refine then_ex (then_ex (blk_same (then_n ?_)))
        exact hJ970 _ _ ⟨at_939, f940, hS.to [0, 1, 2, 3] (by kernel_rfl) ⟨rfl, rfl, trivial⟩, hB941, hM⟩
  · intro a w hI
    obtain ⟨at_967, f968, hS, hB969, hM⟩ := hI
    rw [huff_Table_Next.j2] at hM
    refine wp_seq ?_
    refine wp_region_list ?_
    refine st1 hS (mv rfl) rfl fun a w hS => ?_
    refine st1 hS (ldbA 3 rfl hB907 rfl ([.int .i64 r899.place_.at_, str r899.text_]) rfl rfl Tryd.isAgg57 Tryd.sizeOf57) rfl fun a w hS => ?_
    refine st1 hS (nck rfl) rfl fun a w hS => ?_
    refine stB 0 ([.int .i64 r899.place_.at_, str r899.text_]) ([.int .i64 r899.place_.at_, str r899.text_]) hS rfl rfl hB969 rfl rfl Tryd.sizeOf57 (by simp [Value.oneCell']) (Nat.le_of_ble_eq_true rfl) rfl fun w f971 hB972 hS => ?_
    refine wpList_nil ?_
    refine then_n ?_
    refine wp_seq ?_
    refine wp_region_list ?_
    refine st1 hS (asg rfl) rfl fun a w hS => ?_
    refine st1 hS (asg rfl) rfl fun a w hS => ?_
    refine wpList_nil ?_
    refine then_n ?_
    refine wp_ret ?_
    exact s_ret (rs := [4, 5]) hS rfl rfl (hret (0 : Int) (3 : Int) r899.place_.at_ f971 w hM hB972 (hS.st.pick [0, 1, 2] (by kernel_rfl)))

theorem inflate_reader_symbol_c {H : Imm} {F : List Frag} {w : World} {R : Ending → World → Prop} {kr : (Int × Int) → Prop} {kp : Value → Prop} (hG : Gl H) (K : Nat) (r870 : T_inflate_reader) (t881 : T_huff_Table) (b871 : Nat) (f872 : Frag) (b874 : Nat) (f875 : Frag) (A877 : Option Addr) (c878 : Nat) (f879 : Frag) (b882 : Nat) (f883 : Frag) (A886 : Option Addr) (c887 : Nat) (f888 : Frag) (hB873 : Blk f872 b871 ([ptr b874 0, .slice A877 r870.out_.length c878, .int .i64 r870.limit_]) 44) (hB876 : Blk f875 b874 ([.int .i64 r870.Reader_.place_.at_, str r870.Reader_.text_]) 57) (hV880 : Vec 5 (ci .u8) 1 A877 r870.out_ c878 f879) (hB884 : Blk f883 b882 ((t881.counts_.flatMap (ci .i64)) ++ [.slice A886 t881.symbols_.length c887]) 110) (hl885 : t881.counts_.length = 16) (hV889 : Vec 3 (ci .i64) 1 A886 t881.symbols_ c887 f888)
    (hS : St w H [f872, f875, f879, f883, f888] F) (hm : (inflate_reader_symbol.m K r870 t881).wp kr kp)
    (hret : ∀ (x983 : Int) (at_984 : Int) (f985 : Frag) (w : World), kr (x983, at_984) → (Blk f985 b874 ([.int .i64 at_984, str r870.Reader_.text_]) 57) → St w H [f883, f888, f872, f985, f879] F → R (.returned (.int .i64 x983)) w)
    (hpan : ∀ v w, kp v → St w H [] F → R (.panicked [⟨v, false, false⟩]) w) :
    Calls Tryd.prog 36 ⟨[ptr b871 0, ptr b882 0]⟩ w R := by
  refine enter Tryd.func36 rfl Tryd.ntmps36 rfl hS fun a w hS => ?_
  have hM := hm; clear hm
  rw [inflate_reader_symbol.m] at hM
  refine wp_seq ?_
  refine wp_region_list ?_
  refine st1 hS (asg rfl) rfl fun a w hS => ?_
  refine wpList_nil ?_
  refine then_n ?_
  refine wp_seq ?_
  refine wp_region_list ?_
  refine st1 hS (mv rfl) rfl fun a w hS => ?_
  refine st1 hS (mv rfl) rfl fun a w hS => ?_
  refine st1 hS (nck rfl) rfl fun a w hS => ?_
  refine st1 hS (fad rfl Tryd.runUnderlying44 rfl Tryd.sizeOf41 rfl) rfl fun a w hS => ?_
  refine st1 hS (ldb 0 rfl hB873 rfl rfl Tryd.isAgg41) rfl fun a w hS => ?_
  refine s_call hS rfl Tryd.call48 (huff_Table_Next_c hG K t881 r870.Reader_ b882 f883 A886 c887 f888 b874 f875 hB884 hl885 hV889 hB876 (hS.st.part 3 [3, 4, 1, 0, 2] (by kernel_rfl)) (wp_bind hM) (fun x978 x979 at_980 f981 w hM h982 hst => s_back hS.ev hst.appF rfl fun hS => ?_))
  replace hS : Ss _ _ _ H [f981, f883, f888, f872, f879] F _ _ := hS
  refine st1 hS (mv rfl) rfl fun a w hS => ?_
  refine st1 hS (ex rfl rfl) rfl fun a w hS => ?_
  refine st1 hS (ex rfl rfl) rfl fun a w hS => ?_
  refine st1 hS (asg rfl) rfl fun a w hS => ?_
  refine st1 hS (asg rfl) rfl fun a w hS => ?_
  refine wpList_nil ?_
  refine then_n ?_
  refine wp_seq ?_
  refine wp_region_list ?_
  refine st1 hS (mv rfl) rfl fun a w hS => ?_
  refine s_call hS rfl Tryd.call34 (inflate_must_c hG K x979 (hS.st.part 0 [0, 1, 2, 3, 4] (by kernel_rfl)) (wp_bind hM) (fun  w hM  hst => s_back hS.ev hst.appF rfl fun hS => ?_) (fun v w hk hst => s_pan (then_pan (⟨hS.ev.defs, hpan _ _ hk hst.appF.frame⟩))))
  replace hS : Ss _ _ _ H [f981, f883, f888, f872, f879] F _ _ := hS
  refine wpList_nil ?_
  refine then_n ?_
  refine wp_seq ?_
  refine wp_region_list ?_
  refine st1 hS (mv rfl) rfl fun a w hS => ?_
  refine st1 hS (asg rfl) rfl fun a w hS => ?_
  refine wpList_nil ?_
  refine then_n ?_
  refine wp_ret ?_
  exact s_ret (rs := [4]) hS rfl rfl (hret x978 at_980 f981 w hM h982 (hS.st.pick [1, 2, 3, 0, 4] (by kernel_rfl)))

theorem inflate_reader_far_c {H : Imm} {F : List Frag} {w : World} {R : Ending → World → Prop} {kr : (Int × Int) → Prop} {kp : Value → Prop} (hG : Gl H) (K : Nat) (r1008 : T_inflate_reader) (x1019 : T_inflate_run) (b1009 : Nat) (f1010 : Frag) (b1012 : Nat) (f1013 : Frag) (A1015 : Option Addr) (c1016 : Nat) (f1017 : Frag) (hB1011 : Blk f1010 b1009 ([ptr b1012 0, .slice A1015 r1008.out_.length c1016, .int .i64 r1008.limit_]) 44) (hB1014 : Blk f1013 b1012 ([.int .i64 r1008.Reader_.place_.at_, str r1008.Reader_.text_]) 57) (hV1018 : Vec 5 (ci .u8) 1 A1015 r1008.out_ c1016 f1017)
    (hS : St w H [f1010, f1013, f1017] F) (hm : (inflate_reader_far.m K r1008 x1019).wp kr kp)
    (hret : ∀ (x1029 : Int) (at_1030 : Int) (f1031 : Frag) (w : World), kr (x1029, at_1030) → (Blk f1031 b1012 ([.int .i64 at_1030, str r1008.Reader_.text_]) 57) → St w H [f1010, f1031, f1017] F → R (.returned (.int .i64 x1029)) w)
    (hpan : ∀ v w, kp v → St w H [] F → R (.panicked [⟨v, false, false⟩]) w) :
    Calls Tryd.prog 37 ⟨[ptr b1009 0, .agg ⟨[.int .i64 x1019.from_, .int .i64 x1019.bits_]⟩]⟩ w R := by
  refine enter Tryd.func37 rfl Tryd.ntmps37 rfl hS fun a w hS => ?_
  have hM := hm; clear hm
  rw [inflate_reader_far.m] at hM
  refine wp_seq ?_
  refine wp_region_list ?_
  refine bx ([.int .i64 x1019.from_, .int .i64 x1019.bits_]) hS rfl rfl rfl fun w b1020 f1021 hB1022 hS => ?_
  refine st1 hS (asg rfl) rfl fun a w hS => ?_
  refine wpList_nil ?_
  refine then_n ?_
  refine wp_seq ?_
  refine draw_begin (vals := [some (ptr b1020 0), some (.int .i64 x1019.from_), some (ptr b1009 0), some (ptr b1020 1), some (.int .i64 x1019.bits_), none, none, none]) hS mixed rfl ?_
  intro l w ho hcl hA hst
  refine phase' (vals := [some (ptr b1020 0), some (.int .i64 x1019.from_), some (ptr b1009 0), some (ptr b1020 1), some (.int .i64 x1019.bits_), none, none, none]) 5 [] [0, 1, 2, 3, 4] rfl rfl rfl rfl (by exact ⟨nR rfl rfl rfl rfl rfl (by exact ovE (fad rfl Tryd.runUnderlying83 rfl Tryd.sizeOf3 rfl) rfl), nR rfl rfl rfl rfl rfl (by exact ovE (ldb 0 rfl hB1022 rfl rfl Tryd.isAgg3) rfl), nR rfl rfl rfl rfl rfl (by exact ovE (mv rfl) rfl), nR rfl rfl rfl rfl rfl (by exact ovE (fad rfl Tryd.runUnderlying83 rfl Tryd.sizeOf3 rfl) rfl), nR rfl rfl rfl rfl rfl (by exact ovE (ldb 0 rfl hB1022 rfl rfl Tryd.isAgg3) rfl), trivial⟩) (fun D l a w ho hcl hav hpre hm hE hk hA hst => ?_) ho hcl (fun j hj => (List.not_mem_nil hj).elim) (fun m hm => (List.not_mem_nil hm).elim) List.not_mem_nil hA hst
  have hS := (Ss.mk hE hst).env2 (e' := [(7, ptr b1009 0), (9, .int .i64 x1019.bits_)]) ⟨rfl, rfl, trivial⟩
  refine op_of_nth rfl ?_
  refine s_call hS rfl Tryd.call21 (inflate_reader_number_c hG K r1008 x1019.bits_ b1009 f1010 b1012 f1013 A1015 c1016 f1017 hB1011 hB1014 hV1018 (hS.st.part 3 [1, 2, 3, 0] (by kernel_rfl)) (wp_bind hM) (fun x1023 at_1024 f1025 w hM h1026 hst => s_back hS.ev hst.appF rfl fun hS => ?_) (fun v w hk hst => s_pan (then_pan (then_pan (⟨hS.ev.defs, hpan _ _ hk hst.appF.frame⟩)))))
  replace hS : Ss _ _ _ H [f1010, f1025, f1017, f1021] F _ _ := hS
  refine wpList_nil (then_n ?_)
  have hcl2 := hcl.cons (k := 5) (nth_get rfl) hpre
  have hmust := must_cons (k := 5) hm (chain (k := 5) hcl (nth_get rfl) hpre [(2, 5), (4, 5), (3, 4)] [] rfl (fun _ h => absurd h List.not_mem_nil))
  replace hst := hS.st
  obtain ⟨v1027, hz1028⟩ : ∃ x, x = (w64 (x1019.from_ + x1023)) := ⟨_, rfl⟩
  replace hM := lt_to hz1028 hM
  have hav2 := hav.cons (vals' := [some (ptr b1020 0), some (.int .i64 x1019.from_), some (ptr b1009 0), some (ptr b1020 1), some (.int .i64 x1019.bits_), some (.int .i64 x1023), some (.int .i64 (w64 (x1019.from_ + x1023))), some (.int .i64 v1027)]) (k := 5) ⟨rfl, rfl, rfl, rfl, rfl, trivial⟩ rfl
  replace hA := (hA.next hav (subV.get (l' := [some (ptr b1020 0), some (.int .i64 x1019.from_), some (ptr b1009 0), some (ptr b1020 1), some (.int .i64 x1019.bits_), some (.int .i64 x1023), some (.int .i64 (w64 (x1019.from_ + x1023))), some (.int .i64 v1027)]) ⟨rfl, rfl, rfl, rfl, rfl, trivial⟩)).step rfl (nth_get rfl) hk rfl rfl rfl
  clear hm hav
  replace hcl := hcl2
  refine phaseE (vals := [some (ptr b1020 0), some (.int .i64 x1019.from_), some (ptr b1009 0), some (ptr b1020 1), some (.int .i64 x1019.bits_), some (.int .i64 x1023), some (.int .i64 (w64 (x1019.from_ + x1023))), some (.int .i64 v1027)]) [5, 2, 4, 3] [0, 1, 6, 7] rfl rfl rfl (by exact ⟨nR rfl rfl rfl rfl rfl (by exact ovE (fad rfl Tryd.runUnderlying83 rfl Tryd.sizeOf3 rfl) rfl), nR rfl rfl rfl rfl rfl (by exact ovE (ldb 3 rfl hB1022 rfl rfl Tryd.isAgg3) rfl), nR rfl rfl rfl rfl rfl (by exact ovE (bin rfl rfl rfl) rfl), nR rfl rfl rfl rfl rfl (by exact ovE (asg rfl) (congrArg (Value.int .i64) hz1028.symm)), trivial⟩) (fun a w hS => ?_) ho hcl hmust hA hst
  replace hS := hS.env2 (e' := [(4, .int .i64 v1027)]) ⟨rfl, trivial⟩
  refine then_n ?_
  refine wp_ret ?_
  exact s_ret (rs := [4]) hS rfl rfl (hret v1027 at_1024 f1025 w hM h1026 (hS.st.pick [0, 1, 2] (by kernel_rfl)))

theorem inflate_reader_symbols_c {H : Imm} {F : List Frag} {w : World} {R : Ending → World → Prop} {kr : (Int × (List Int)) → Prop} {kp : Value → Prop} (hG : Gl H) (K : Nat) (r840 : T_inflate_reader) (literals851 : T_huff_Table) (back860 : T_huff_Table) (b841 : Nat) (f842 : Frag) (b844 : Nat) (f845 : Frag) (A847 : Option Addr) (c848 : Nat) (f849 : Frag) (b852 : Nat) (f853 : Frag) (A856 : Option Addr) (c857 : Nat) (f858 : Frag) (b861 : Nat) (f862 : Frag) (A865 : Option Addr) (c866 : Nat) (f867 : Frag) (hB843 : Blk f842 b841 ([ptr b844 0, .slice A847 r840.out_.length c848, .int .i64 r840.limit_]) 44) (hB846 : Blk f845 b844 ([.int .i64 r840.Reader_.place_.at_, str r840.Reader_.text_]) 57) (hV850 : Vec 5 (ci .u8) 1 A847 r840.out_ c848 f849) (hB854 : Blk f853 b852 ((literals851.counts_.flatMap (ci .i64)) ++ [.slice A856 literals851.symbols_.length c857]) 110) (hl855 : literals851.counts_.length = 16) (hV859 : Vec 3 (ci .i64) 1 A856 literals851.symbols_ c857 f858) (hB863 : Blk f862 b861 ((back860.counts_.flatMap (ci .i64)) ++ [.slice A865 back860.symbols_.length c866]) 110) (hl864 : back860.counts_.length = 16) (hV868 : Vec 3 (ci .i64) 1 A865 back860.symbols_ c866 f867)
    (hS : St w H [f842, f845, f849, f853, f858, f862, f867] F) (hm : (inflate_reader_symbols.m K r840 literals851 back860).wp kr kp)
    (hret : ∀ (at_1202 : Int) (f1203 : Frag) (A1205 : Option Addr) (c1206 : Nat) (out1207 : (List Int)) (f1208 : Frag) (f1210 : Frag) (w : World), kr (at_1202, out1207) → (Blk f1203 b844 ([.int .i64 at_1202, str r840.Reader_.text_]) 57) → (Vec 5 (ci .u8) 1 A1205 out1207 c1206 f1208) → (Blk f1210 b841 ([ptr b844 0, .slice A1205 out1207.length c1206, .int .i64 r840.limit_]) 44) → St w H [f862, f867, f853, f858, f1210, f1203, f1208] F → R (.returned (.tuple ⟨[]⟩)) w)
    (hpan : ∀ v w, kp v → St w H [] F → R (.panicked [⟨v, false, false⟩]) w) :
    Calls Tryd.prog 23 ⟨[ptr b841 0, ptr b852 0, ptr b861 0]⟩ w R := by
  refine enter Tryd.func23 rfl Tryd.ntmps23 rfl hS fun a w hS => ?_
  have hM := hm; clear hm
  rw [inflate_reader_symbols.m] at hM
  refine wp_block ?_
  refine s_loopJ (fun k1116 a w => ∃ (at_1106 : Int) (f1107 : Frag) (A1109 : Option Addr) (c1110 : Nat) (out1111 : (List Int)) (f1112 : Frag) (f1114 : Frag), Ss 108 [] [(0, ptr b841 0), (1, ptr b852 0), (2, ptr b861 0)] H [f862, f867, f853, f858, f1114, f1107, f1112] F a w ∧ (Blk f1107 b844 ([.int .i64 at_1106, str r840.Reader_.text_]) 57) ∧ (Vec 5 (ci .u8) 1 A1109 out1111 c1110 f1112) ∧ (Blk f1114 b841 ([ptr b844 0, .slice A1109 out1111.length c1110, .int .i64 r840.limit_]) 44) ∧ (inflate_reader_symbols.l1 K r840 literals851 back860 k1116 at_1106 out1111).wp kr kp) K ?_ ?_ ?_
  · exact ⟨r840.Reader_.place_.at_, f845, A847, c848, r840.out_, f849, f842, hS.to [5, 6, 3, 4, 0, 1, 2] (by kernel_rfl) ⟨rfl, rfl, rfl, trivial⟩, hB846, hV850, hB843, hM⟩
  · intro a w hI; obtain ⟨_, _, _, _, _, _, _, _, _, _, _, hM⟩ := hI; exact hM
  · intro k1116 a w hI J1201 hJ1201
    obtain ⟨at_1106, f1107, A1109, c1110, out1111, f1112, f1114, hS, hB1108, hV1113, hB1115, hM⟩ := hI
    rw [inflate_reader_symbols.l1] at hM
    refine wp_block ?_
    refine wp_seq ?_
    refine wp_region_list ?_
    refine st1 hS (mv rfl) rfl fun a w hS => ?_
    refine st1 hS (mv rfl) rfl fun a w hS => ?_
    refine s_call hS rfl Tryd.call36 (inflate_reader_symbol_c hG K (T_inflate_reader.mk (T_bits_Reader.mk (T_bits_place.mk at_1106) r840.Reader_.text_) out1111 r840.limit_) literals851 b841 f1114 b844 f1107 A1109 c1110 f1112 b852 f853 A856 c857 f858 hB1115 hB1108 hV1113 hB854 hl855 hV859 (hS.st.part 5 [4, 5, 6, 2, 3, 0, 1] (by kernel_rfl)) (wp_bind hM) (fun x1117 at_1118 f1119 w hM h1120 hst => s_back hS.ev hst.appF rfl fun hS => ?_) (fun v w hk hst => s_pan (then_pan (blk_pan (then_pan (blk_pan (⟨hS.ev.defs, hpan _ _ hk hst.appF.frame⟩)))))))
    replace hS : Ss _ _ _ H [f853, f858, f1114, f1119, f1112, f862, f867] F _ _ := hS
    refine st1 hS (asg rfl) rfl fun a w hS => ?_
    refine wpList_nil ?_
    refine then_n ?_
    refine wp_seq ?_
    refine wp_block ?_
    refine wp_seq ?_
    refine wp_region_list ?_
    refine st1 hS (mv rfl) rfl fun a w hS => ?_
    refine st1 hS (bin rfl rfl rfl) rfl fun a w hS => ?_
    refine st1x (v := Value.bool) hS (asg rfl) rfl fun v1121 a w hz hS => ?_
    have hM := lt_to hz hM; clear hz
    refine wpList_nil ?_
    refine then_n ?_
    refine s_cond hS rfl hM (fun hb1122 hM => ?_) (fun hb1122 hM => ?_)
    · refine wp_ret ?_
      refine blk_ret (then_ret (blk_ret (then_ret (blk_ret ?_))))
      exact s_ret (rs := []) hS rfl rfl (hret at_1118 f1119 A1109 c1110 out1111 f1112 f1114 w hM h1120 hV1113 hB1115 (hS.st.pick [5, 6, 0, 1, 2, 3, 4] (by kernel_rfl)))
    · refine wp_seq ?_
      refine wp_region_list ?_
      refine st1 hS (mv rfl) rfl fun a w hS => ?_
      refine st1 hS (bin rfl rfl rfl) rfl fun a w hS => ?_
      refine st1x (v := Value.bool) hS (asg rfl) rfl fun v1123 a w hz hS => ?_
      have hM := lt_to hz hM; clear hz
      refine wpList_nil ?_
      refine then_n ?_
      refine s_cond hS rfl hM (fun hb1124 hM => ?_) (fun hb1124 hM => ?_)
      · refine wp_seq ?_
        refine draw_begin (vals := [some (ptr b841 0), some (ptr b841 0), some (ptr b841 1), some (.slice A1109 out1111.length c1110), some (.int .i64 (out1111.length : Int)), some (ptr b841 0), some (ptr b841 0), some (ptr b841 2), some (.int .i64 r840.limit_), some (.bool ((out1111.length : Int) == r840.limit_)), none]) hS mixed rfl ?_
        intro l w ho hcl hA hst
        refine phase' (vals := [some (ptr b841 0), some (ptr b841 0), some (ptr b841 1), some (.slice A1109 out1111.length c1110), some (.int .i64 (out1111.length : Int)), some (ptr b841 0), some (ptr b841 0), some (ptr b841 2), some (.int .i64 r840.limit_), some (.bool ((out1111.length : Int) == r840.limit_)), none]) 10 [] [0, 1, 2, 3, 4, 5, 6, 7, 8, 9] rfl rfl rfl rfl (by exact ⟨nR rfl rfl rfl rfl rfl (by exact ovE (mv rfl) rfl), nR rfl rfl rfl rfl rfl (by exact ovE (nck rfl) rfl), nR rfl rfl rfl rfl rfl (by exact ovE (fad rfl Tryd.runUnderlying44 rfl Tryd.sizeOf30 rfl) rfl), nR rfl rfl rfl rfl rfl (by exact ovE (ldb 2 rfl hB1115 rfl rfl Tryd.isAgg30) rfl), nR rfl rfl rfl rfl rfl (by exact ovE (lenV rfl Tryd.runUnderlying30) rfl), nR rfl rfl rfl rfl rfl (by exact ovE (mv rfl) rfl), nR rfl rfl rfl rfl rfl (by exact ovE (nck rfl) rfl), nR rfl rfl rfl rfl rfl (by exact ovE (fad rfl Tryd.runUnderlying44 rfl Tryd.sizeOf3 rfl) rfl), nR rfl rfl rfl rfl rfl (by exact ovE (ldb 2 rfl hB1115 rfl rfl Tryd.isAgg3) rfl), nR rfl rfl rfl rfl rfl (by exact ovE (bin rfl rfl rfl) rfl), trivial⟩) (fun D l a w ho hcl hav hpre hm hE hk hA hst => ?_) ho hcl (fun j hj => (List.not_mem_nil hj).elim) (fun m hm => (List.not_mem_nil hm).elim) List.not_mem_nil hA hst
        have hS := (Ss.mk hE hst).env2 (e' := [(28, .bool ((out1111.length : Int) == r840.limit_))]) ⟨rfl, trivial⟩
        refine op_of_nth rfl ?_
        refine s_call hS rfl Tryd.call26 (inflate_refuse_c hG K ((out1111.length : Int) == r840.limit_) (11 : Int) (hS.st.part 0 [0, 1, 2, 3, 4, 5, 6] (by kernel_rfl)) (wp_bind hM) (fun  w hM  hst => s_back hS.ev hst.appF rfl fun hS => ?_) (fun v w hk hst => s_pan (then_pan (then_pan (blk_pan (then_pan (blk_pan (then_pan (blk_pan (⟨hS.ev.defs, hpan _ _ hk hst.appF.frame⟩))))))))))
        replace hS : Ss _ _ _ H [f853, f858, f1114, f1119, f1112, f862, f867] F _ _ := hS
        refine wpList_nil (then_n ?_)
        have hcl2 := hcl.cons (k := 10) (nth_get rfl) hpre
        have hmust := must_cons (k := 10) hm (chain (k := 10) hcl (nth_get rfl) hpre [(9, 10), (4, 9), (8, 9), (3, 4), (7, 8), (2, 3), (6, 7), (1, 2), (5, 6), (0, 1)] [] rfl (fun _ h => absurd h List.not_mem_nil))
        replace hst := hS.st
        have hav2 := hav.cons (vals' := [some (ptr b841 0), some (ptr b841 0), some (ptr b841 1), some (.slice A1109 out1111.length c1110), some (.int .i64 (out1111.length : Int)), some (ptr b841 0), some (ptr b841 0), some (ptr b841 2), some (.int .i64 r840.limit_), some (.bool ((out1111.length : Int) == r840.limit_)), some (.tuple ⟨[]⟩)]) (k := 10) ⟨rfl, rfl, rfl, rfl, rfl, rfl, rfl, rfl, rfl, rfl, trivial⟩ rfl
        replace hA := (hA.next hav (subV.get (l' := [some (ptr b841 0), some (ptr b841 0), some (ptr b841 1), some (.slice A1109 out1111.length c1110), some (.int .i64 (out1111.length : Int)), some (ptr b841 0), some (ptr b841 0), some (ptr b841 2), some (.int .i64 r840.limit_), some (.bool ((out1111.length : Int) == r840.limit_)), some (.tuple ⟨[]⟩)]) ⟨rfl, rfl, rfl, rfl, rfl, rfl, rfl, rfl, rfl, rfl, trivial⟩)).step rfl (nth_get rfl) hk rfl rfl rfl
        clear hm hav
        replace hcl := hcl2
        refine phaseE (vals := [some (ptr b841 0), some (ptr b841 0), some (ptr b841 1), some (.slice A1109 out1111.length c1110), some (.int .i64 (out1111.length : Int)), some (ptr b841 0), some (ptr b841 0), some (ptr b841 2), some (.int .i64 r840.limit_), some (.bool ((out1111.length : Int) == r840.limit_)), some (.tuple ⟨[]⟩)]) [10, 9, 4, 8, 3, 7, 2, 6, 1, 5, 0] [] rfl rfl rfl trivial (fun a w hS => ?_) ho hcl hmust hA hst
        replace hS := hS.env2 (e' := [(0, ptr b841 0), (1, ptr b852 0), (2, ptr b861 0), (6, .int .i64 x1117)]) ⟨rfl, rfl, rfl, rfl, trivial⟩
        refine then_n ?_
        refine wp_seq ?_
        refine wp_region_list ?_
        refine st1 hS (mv rfl) rfl fun a w hS => ?_
        refine st1 hS (mv rfl) rfl fun a w hS => ?_
        refine st1 hS (nck rfl) rfl fun a w hS => ?_
        refine st1 hS (fad rfl Tryd.runUnderlying44 rfl Tryd.sizeOf30 rfl) rfl fun a w hS => ?_
        refine st1 hS (ldb 2 rfl hB1115 rfl rfl Tryd.isAgg30) rfl fun a w hS => ?_
        refine st1 hS (mv rfl) rfl fun a w hS => ?_
        refine st1 hS (cvi rfl Tryd.runUnderlying3 Tryd.runUnderlying5) rfl fun a w hS => ?_
        refine bsl (g := (ci .u8)) ([(wr .u8 x1117)] : List Int) [.int .u8 (wr .u8 x1117)] hS Tryd.runUnderlying30 Tryd.sizeOf5 X.el5 rfl rfl rfl (by simp [Value.cells]) rfl rfl rfl rfl rfl fun w A1125 c1126 f1127 hV1128 hS => ?_
        obtain ⟨hk1129, hM⟩ := wp_chk hM
        refine apV (ys := ([(wr .u8 x1117)] : List Int)) 5 hS rfl rfl hV1113 rfl (hV1128.rd (i := 0) rfl) Tryd.runUnderlying30 Tryd.runUnderlying30 X.el5 (fun _ => rfl) rfl one_t5 hk1129 rfl fun zs1134 w A1130 c1131 f1132 hz hV1133 hS => ?_
        have hM := lt_to hz hM; clear hz
        refine st1 hS (nck rfl) rfl fun a w hS => ?_
        refine st1 hS (fad rfl Tryd.runUnderlying44 rfl Tryd.sizeOf30 rfl) rfl fun a w hS => ?_
        refine sto 3 ([ptr b844 0, .slice A1130 zs1134.length c1131, .int .i64 r840.limit_]) hS rfl rfl hB1115 rfl rfl rfl rfl Tryd.sizeOf30 fun w f1135 hB1136 hS => ?_
        refine wpList_nil ?_
        refine then_n ?_
        refine wp_exit ?_
        refine blk_ne rfl (then_ex (blk_same (then_n ?_)))
        exact hJ1201 _ _ ⟨at_1118, f1119, A1130, c1131, zs1134, f1132, f1135, hS.to [6, 7, 1, 2, 3, 4, 5] (by kernel_rfl) ⟨rfl, rfl, rfl, trivial⟩, h1120, hV1133, hB1136, hM⟩
      · refine wp_skip ?_
        refine blk_n (then_n ?_)
        refine wp_seq ?_
        refine wp_region_list ?_
        refine st1 hS (mv rfl) rfl fun a w hS => ?_
        refine st1 hS (bin rfl rfl rfl) rfl fun a w hS => ?_
        refine s_call hS rfl Tryd.call26 (inflate_refuse_c hG K (decide (x1117 ≥ (286 : Int))) (3 : Int) (hS.st.part 0 [0, 1, 2, 3, 4, 5, 6] (by kernel_rfl)) (wp_bind hM) (fun  w hM  hst => s_back hS.ev hst.appF rfl fun hS => ?_) (fun v w hk hst => s_pan (then_pan (blk_pan (then_pan (blk_pan (⟨hS.ev.defs, hpan _ _ hk hst.appF.frame⟩)))))))
        replace hS : Ss _ _ _ H [f853, f858, f1114, f1119, f1112, f862, f867] F _ _ := hS
        refine wpList_nil ?_
        refine then_n ?_
        refine wp_seq ?_
        refine wp_region_list ?_
        refine st1 hS (mv rfl) rfl fun a w hS => ?_
        refine st1 hS (mv rfl) rfl fun a w hS => ?_
        refine st1 hS (bin rfl rfl rfl) rfl fun a w hS => ?_
        obtain ⟨hk1137, hM⟩ := wp_chk hM
        refine st1 hS (ixB rfl rfl Tryd.runUnderlying84 Tryd.sizeOf83 hk1137) rfl fun a w hS => ?_
        refine st1 hS (ldGA rfl hG.g0 (fun _ => rfl) hk1137 Tryd.isAgg83 Tryd.sizeOf83) rfl fun a w hS => ?_
        refine s_call hS rfl Tryd.call37 (inflate_reader_far_c hG K (T_inflate_reader.mk (T_bits_Reader.mk (T_bits_place.mk at_1118) r840.Reader_.text_) out1111 r840.limit_) (T_inflate_run.mk ((rd tab_inflate_lengths (w64 (x1117 - (257 : Int)))).from_) ((rd tab_inflate_lengths (w64 (x1117 - (257 : Int)))).bits_)) b841 f1114 b844 f1119 A1109 c1110 f1112 hB1115 h1120 hV1113 (hS.st.part 3 [2, 3, 4, 0, 1, 5, 6] (by kernel_rfl)) (wp_bind hM) (fun x1138 at_1139 f1140 w hM h1141 hst => s_back hS.ev hst.appF rfl fun hS => ?_) (fun v w hk hst => s_pan (then_pan (blk_pan (then_pan (blk_pan (⟨hS.ev.defs, hpan _ _ hk hst.appF.frame⟩)))))))
        replace hS : Ss _ _ _ H [f1114, f1140, f1112, f853, f858, f862, f867] F _ _ := hS
        refine st1 hS (asg rfl) rfl fun a w hS => ?_
        refine wpList_nil ?_
        refine then_n ?_
        refine wp_seq ?_
        refine wp_region_list ?_
        refine st1 hS (mv rfl) rfl fun a w hS => ?_
        refine st1 hS (mv rfl) rfl fun a w hS => ?_
        refine s_call hS rfl Tryd.call36 (inflate_reader_symbol_c hG K (T_inflate_reader.mk (T_bits_Reader.mk (T_bits_place.mk at_1139) r840.Reader_.text_) out1111 r840.limit_) back860 b841 f1114 b844 f1140 A1109 c1110 f1112 b861 f862 A865 c866 f867 hB1115 h1141 hV1113 hB863 hl864 hV868 (hS.st.part 5 [0, 1, 2, 5, 6, 3, 4] (by kernel_rfl)) (wp_bind hM) (fun x1142 at_1143 f1144 w hM h1145 hst => s_back hS.ev hst.appF rfl fun hS => ?_) (fun v w hk hst => s_pan (then_pan (blk_pan (then_pan (blk_pan (⟨hS.ev.defs, hpan _ _ hk hst.appF.frame⟩)))))))
        replace hS : Ss _ _ _ H [f862, f867, f1114, f1144, f1112, f853, f858] F _ _ := hS
        refine st1 hS (asg rfl) rfl fun a w hS => ?_
        refine wpList_nil ?_
        refine then_n ?_
        refine wp_seq ?_
        refine wp_region_list ?_
        refine st1 hS (mv rfl) rfl fun a w hS => ?_
        refine st1 hS (bin rfl rfl rfl) rfl fun a w hS => ?_
        refine s_call hS rfl Tryd.call26 (inflate_refuse_c hG K (decide (x1142 ≥ (30 : Int))) (3 : Int) (hS.st.part 0 [0, 1, 2, 3, 4, 5, 6] (by kernel_rfl)) (wp_bind hM) (fun  w hM  hst => s_back hS.ev hst.appF rfl fun hS => ?_) (fun v w hk hst => s_pan (then_pan (blk_pan (then_pan (blk_pan (⟨hS.ev.defs, hpan _ _ hk hst.appF.frame⟩)))))))
        replace hS : Ss _ _ _ H [f862, f867, f1114, f1144, f1112, f853, f858] F _ _ := hS
        refine wpList_nil ?_
        refine then_n ?_
        refine wp_seq ?_
        refine wp_region_list ?_
        refine st1 hS (mv rfl) rfl fun a w hS => ?_
        refine st1 hS (mv rfl) rfl fun a w hS => ?_
        obtain ⟨hk1146, hM⟩ := wp_chk hM
        refine st1 hS (ixB rfl rfl Tryd.runUnderlying85 Tryd.sizeOf83 hk1146) rfl fun a w hS => ?_
        refine st1 hS (ldGA rfl hG.g1 (fun _ => rfl) hk1146 Tryd.isAgg83 Tryd.sizeOf83) rfl fun a w hS => ?_
        refine s_call hS rfl Tryd.call37 (inflate_reader_far_c hG K (T_inflate_reader.mk (T_bits_Reader.mk (T_bits_place.mk at_1143) r840.Reader_.text_) out1111 r840.limit_) (T_inflate_run.mk ((rd tab_inflate_distances x1142).from_) ((rd tab_inflate_distances x1142).bits_)) b841 f1114 b844 f1144 A1109 c1110 f1112 hB1115 h1145 hV1113 (hS.st.part 3 [2, 3, 4, 0, 1, 5, 6] (by kernel_rfl)) (wp_bind hM) (fun x1147 at_1148 f1149 w hM h1150 hst => s_back hS.ev hst.appF rfl fun hS => ?_) (fun v w hk hst => s_pan (then_pan (blk_pan (then_pan (blk_pan (⟨hS.ev.defs, hpan _ _ hk hst.appF.frame⟩)))))))
        replace hS : Ss _ _ _ H [f1114, f1149, f1112, f862, f867, f853, f858] F _ _ := hS
        refine st1 hS (asg rfl) rfl fun a w hS => ?_
        refine wpList_nil ?_
        refine then_n ?_
        refine wp_seq ?_
        refine wp_region_list ?_
        refine st1 hS (mv rfl) rfl fun a w hS => ?_
        refine st1 hS (mv rfl) rfl fun a w hS => ?_
        refine st1 hS (nck rfl) rfl fun a w hS => ?_
        refine st1 hS (fad rfl Tryd.runUnderlying44 rfl Tryd.sizeOf30 rfl) rfl fun a w hS => ?_
        refine st1 hS (ldb 0 rfl hB1115 rfl rfl Tryd.isAgg30) rfl fun a w hS => ?_
        refine st1 hS (lenV rfl Tryd.runUnderlying30) rfl fun a w hS => ?_
        refine st1 hS (bin rfl rfl rfl) rfl fun a w hS => ?_
        refine s_call hS rfl Tryd.call26 (inflate_refuse_c hG K (decide (x1147 > (out1111.length : Int))) (3 : Int) (hS.st.part 0 [0, 1, 2, 3, 4, 5, 6] (by kernel_rfl)) (wp_bind hM) (fun  w hM  hst => s_back hS.ev hst.appF rfl fun hS => ?_) (fun v w hk hst => s_pan (then_pan (blk_pan (then_pan (blk_pan (⟨hS.ev.defs, hpan _ _ hk hst.appF.frame⟩)))))))
        replace hS : Ss _ _ _ H [f1114, f1149, f1112, f862, f867, f853, f858] F _ _ := hS
        refine wpList_nil ?_
        refine then_n ?_
        refine wp_seq ?_
        refine draw_begin (vals := [some (ptr b841 0), some (ptr b841 0), some (ptr b841 1), some (.slice A1109 out1111.length c1110), some (.int .i64 (out1111.length : Int)), some (.int .i64 x1138), some (.int .i64 (w64 ((out1111.length : Int) + x1138))), some (ptr b841 0), some (ptr b841 0), some (ptr b841 2), some (.int .i64 r840.limit_), some (.bool (decide ((w64 ((out1111.length : Int) + x1138)) > r840.limit_))), none]) hS mixed rfl ?_
        intro l w ho hcl hA hst
        refine phase' (vals := [some (ptr b841 0), some (ptr b841 0), some (ptr b841 1), some (.slice A1109 out1111.length c1110), some (.int .i64 (out1111.length : Int)), some (.int .i64 x1138), some (.int .i64 (w64 ((out1111.length : Int) + x1138))), some (ptr b841 0), some (ptr b841 0), some (ptr b841 2), some (.int .i64 r840.limit_), some (.bool (decide ((w64 ((out1111.length : Int) + x1138)) > r840.limit_))), none]) 12 [] [0, 1, 2, 3, 4, 5, 6, 7, 8, 9, 10, 11] rfl rfl rfl rfl (by exact ⟨nR rfl rfl rfl rfl rfl (by exact ovE (mv rfl) rfl), nR rfl rfl rfl rfl rfl (by exact ovE (nck rfl) rfl), nR rfl rfl rfl rfl rfl (by exact ovE (fad rfl Tryd.runUnderlying44 rfl Tryd.sizeOf30 rfl) rfl), nR rfl rfl rfl rfl rfl (by exact ovE (ldb 0 rfl hB1115 rfl rfl Tryd.isAgg30) rfl), nR rfl rfl rfl rfl rfl (by exact ovE (lenV rfl Tryd.runUnderlying30) rfl), nR rfl rfl rfl rfl rfl (by exact ovE (mv rfl) rfl), nR rfl rfl rfl rfl rfl (by exact ovE (bin rfl rfl rfl) rfl), nR rfl rfl rfl rfl rfl (by exact ovE (mv rfl) rfl), nR rfl rfl rfl rfl rfl (by exact ovE (nck rfl) rfl), nR rfl rfl rfl rfl rfl (by exact ovE (fad rfl Tryd.runUnderlying44 rfl Tryd.sizeOf3 rfl) rfl), nR rfl rfl rfl rfl rfl (by exact ovE (ldb 0 rfl hB1115 rfl rfl Tryd.isAgg3) rfl), nR rfl rfl rfl rfl rfl (by exact ovE (bin rfl rfl rfl) rfl), trivial⟩) (fun D l a w ho hcl hav hpre hm hE hk hA hst => ?_) ho hcl (fun j hj => (List.not_mem_nil hj).elim) (fun m hm => (List.not_mem_nil hm).elim) List.not_mem_nil hA hst
        have hS := (Ss.mk hE hst).env2 (e' := [(80, .bool (decide ((w64 ((out1111.length : Int) + x1138)) > r840.limit_)))]) ⟨rfl, trivial⟩
        refine op_of_nth rfl ?_
        refine s_call hS rfl Tryd.call26 (inflate_refuse_c hG K (decide ((w64 ((out1111.length : Int) + x1138)) > r840.limit_)) (11 : Int) (hS.st.part 0 [0, 1, 2, 3, 4, 5, 6] (by kernel_rfl)) (wp_bind hM) (fun  w hM  hst => s_back hS.ev hst.appF rfl fun hS => ?_) (fun v w hk hst => s_pan (then_pan (then_pan (blk_pan (then_pan (blk_pan (⟨hS.ev.defs, hpan _ _ hk hst.appF.frame⟩))))))))
        replace hS : Ss _ _ _ H [f1114, f1149, f1112, f862, f867, f853, f858] F _ _ := hS
        refine wpList_nil (then_n ?_)
        have hcl2 := hcl.cons (k := 12) (nth_get rfl) hpre
        have hmust := must_cons (k := 12) hm (chain (k := 12) hcl (nth_get rfl) hpre [(11, 12), (6, 11), (10, 11), (4, 6), (5, 6), (9, 10), (3, 4), (8, 9), (2, 3), (7, 8), (1, 2), (0, 1)] [] rfl (fun _ h => absurd h List.not_mem_nil))
        replace hst := hS.st
        have hav2 := hav.cons (vals' := [some (ptr b841 0), some (ptr b841 0), some (ptr b841 1), some (.slice A1109 out1111.length c1110), some (.int .i64 (out1111.length : Int)), some (.int .i64 x1138), some (.int .i64 (w64 ((out1111.length : Int) + x1138))), some (ptr b841 0), some (ptr b841 0), some (ptr b841 2), some (.int .i64 r840.limit_), some (.bool (decide ((w64 ((out1111.length : Int) + x1138)) > r840.limit_))), some (.tuple ⟨[]⟩)]) (k := 12) ⟨rfl, rfl, rfl, rfl, rfl, rfl, rfl, rfl, rfl, rfl, rfl, rfl, trivial⟩ rfl
        replace hA := (hA.next hav (subV.get (l' := [some (ptr b841 0), some (ptr b841 0), some (ptr b841 1), some (.slice A1109 out1111.length c1110), some (.int .i64 (out1111.length : Int)), some (.int .i64 x1138), some (.int .i64 (w64 ((out1111.length : Int) + x1138))), some (ptr b841 0), some (ptr b841 0), some (ptr b841 2), some (.int .i64 r840.limit_), some (.bool (decide ((w64 ((out1111.length : Int) + x1138)) > r840.limit_))), some (.tuple ⟨[]⟩)]) ⟨rfl, rfl, rfl, rfl, rfl, rfl, rfl, rfl, rfl, rfl, rfl, rfl, trivial⟩)).step rfl (nth_get rfl) hk rfl rfl rfl
        clear hm hav
        replace hcl := hcl2
        refine phaseE (vals := [some (ptr b841 0), some (ptr b841 0), some (ptr b841 1), some (.slice A1109 out1111.length c1110), some (.int .i64 (out1111.length : Int)), some (.int .i64 x1138), some (.int .i64 (w64 ((out1111.length : Int) + x1138))), some (ptr b841 0), some (ptr b841 0), some (ptr b841 2), some (.int .i64 r840.limit_), some (.bool (decide ((w64 ((out1111.length : Int) + x1138)) > r840.limit_))), some (.tuple ⟨[]⟩)]) [12, 11, 6, 10, 4, 5, 9, 3, 8, 2, 7, 1, 0] [] rfl rfl rfl trivial (fun a w hS => ?_) ho hcl hmust hA hst
        replace hS := hS.env2 (e' := [(0, ptr b841 0), (1, ptr b852 0), (2, ptr b861 0), (7, .int .i64 x1138), (9, .int .i64 x1147)]) ⟨rfl, rfl, rfl, rfl, rfl, trivial⟩
        refine then_n ?_
        refine wp_seq ?_
        refine wp_region_list ?_
        refine st1 hS (mv rfl) rfl fun a w hS => ?_
        refine st1 hS (mv rfl) rfl fun a w hS => ?_
        refine wpList_nil ?_
        refine then_n ?_
        refine wp_block ?_
        refine s_loopJ (fun k1184 a w => ∃ (A1176 : Option Addr) (c1177 : Nat) (out1178 : (List Int)) (f1179 : Frag) (f1181 : Frag) (v1183 : Int), Ss 108 [] [(0, ptr b841 0), (1, ptr b852 0), (2, ptr b861 0), (9, .int .i64 x1147), (82, .int .i64 x1138), (83, .int .i64 v1183)] H [f862, f867, f853, f858, f1181, f1149, f1179] F a w ∧ (Vec 5 (ci .u8) 1 A1176 out1178 c1177 f1179) ∧ (Blk f1181 b841 ([ptr b844 0, .slice A1176 out1178.length c1177, .int .i64 r840.limit_]) 44) ∧ (inflate_reader_symbols.l2 K (inflate_reader_symbols.l1 K r840 literals851 back860 k1116) x1138 x1147 at_1148 k1184 out1178 v1183).wp kr kp) K ?_ ?_ ?_
        · exact ⟨A1109, c1110, out1111, f1112, f1114, (0 : Int), hS.to [3, 4, 5, 6, 0, 1, 2] (by kernel_rfl) ⟨rfl, rfl, rfl, rfl, rfl, rfl, trivial⟩, hV1113, hB1115, hM⟩
        · intro a w hI; obtain ⟨_, _, _, _, _, _, _, _, _, hM⟩ := hI; exact hM
        · intro k1184 a w hI J1200 hJ1200
          obtain ⟨A1176, c1177, out1178, f1179, f1181, v1183, hS, hV1180, hB1182, hM⟩ := hI
          rw [inflate_reader_symbols.l2] at hM
          refine wp_seq ?_
          refine wp_region_list ?_
          refine st1 hS (bin rfl rfl rfl) rfl fun a w hS => ?_
          refine wpList_nil ?_
          refine then_n ?_
          refine wp_seq ?_
          refine s_cond hS rfl hM (fun hb1185 hM => ?_) (fun hb1185 hM => ?_)
          · refine wp_skip ?_
            refine then_n ?_
            refine wp_seq ?_
            refine wp_block ?_
            obtain ⟨hk1187, hM⟩ := wp_chk hM
            refine draw_begin (vals := [some (ptr b841 0), some (ptr b841 0), some (ptr b841 0), some (ptr b841 1), some (.slice A1176 out1178.length c1177), some (ptr b841 0), some (ptr b841 0), some (ptr b841 1), some (.slice A1176 out1178.length c1177), some (ptr b841 0), some (ptr b841 0), some (ptr b841 1), some (.slice A1176 out1178.length c1177), some (.int .i64 (out1178.length : Int)), some (.int .i64 x1147), some (.int .i64 (w64 ((out1178.length : Int) - x1147))), some (slp A1176 (Int.toNat (w64 ((out1178.length : Int) - x1147)) * 1)), some (.int .u8 (rd out1178 (w64 ((out1178.length : Int) - x1147)))), none, none, none, none, none]) hS mixed rfl ?_
            intro l w ho hcl hA hst
            refine phase' (vals := [some (ptr b841 0), some (ptr b841 0), some (ptr b841 0), some (ptr b841 1), some (.slice A1176 out1178.length c1177), some (ptr b841 0), some (ptr b841 0), some (ptr b841 1), some (.slice A1176 out1178.length c1177), some (ptr b841 0), some (ptr b841 0), some (ptr b841 1), some (.slice A1176 out1178.length c1177), some (.int .i64 (out1178.length : Int)), some (.int .i64 x1147), some (.int .i64 (w64 ((out1178.length : Int) - x1147))), some (slp A1176 (Int.toNat (w64 ((out1178.length : Int) - x1147)) * 1)), some (.int .u8 (rd out1178 (w64 ((out1178.length : Int) - x1147)))), none, none, none, none, none]) 18 [] [0, 1, 2, 3, 4, 5, 6, 7, 8, 9, 10, 11, 12, 13, 14, 15, 16, 17] rfl rfl rfl rfl (by exact ⟨nR rfl rfl rfl rfl rfl (by exact ovE (mv rfl) rfl), nR rfl rfl rfl rfl rfl (by exact ovE (mv rfl) rfl), nR rfl rfl rfl rfl rfl (by exact ovE (nck rfl) rfl), nR rfl rfl rfl rfl rfl (by exact ovE (fad rfl Tryd.runUnderlying44 rfl Tryd.sizeOf30 rfl) rfl), nR rfl rfl rfl rfl rfl (by exact ovE (ldb 4 rfl hB1182 rfl rfl Tryd.isAgg30) rfl), nR rfl rfl rfl rfl rfl (by exact ovE (mv rfl) rfl), nR rfl rfl rfl rfl rfl (by exact ovE (nck rfl) rfl), nR rfl rfl rfl rfl rfl (by exact ovE (fad rfl Tryd.runUnderlying44 rfl Tryd.sizeOf30 rfl) rfl), nR rfl rfl rfl rfl rfl (by exact ovE (ldb 4 rfl hB1182 rfl rfl Tryd.isAgg30) rfl), nR rfl rfl rfl rfl rfl (by exact ovE (mv rfl) rfl), nR rfl rfl rfl rfl rfl (by exact ovE (nck rfl) rfl), nR rfl rfl rfl rfl rfl (by exact ovE (fad rfl Tryd.runUnderlying44 rfl Tryd.sizeOf30 rfl) rfl), nR rfl rfl rfl rfl rfl (by exact ovE (ldb 4 rfl hB1182 rfl rfl Tryd.isAgg30) rfl), nR rfl rfl rfl rfl rfl (by exact ovE (lenV rfl Tryd.runUnderlying30) rfl), nR rfl rfl rfl rfl rfl (by exact ovE (mv rfl) rfl), nR rfl rfl rfl rfl rfl (by exact ovE (bin rfl rfl rfl) rfl), nR rfl rfl rfl rfl rfl (by exact ovE (ixV rfl rfl Tryd.runUnderlying30 Tryd.sizeOf5 (hV1180.rd (i := 6) rfl) (fun _ => rfl) rfl hk1187) rfl), nR rfl rfl rfl rfl rfl (by exact ovE (ldV0 rfl (hV1180.rd (i := 6) rfl) (fun _ => rfl) hk1187 rfl Tryd.isAgg5) rfl), trivial⟩) (fun D l a w ho hcl hav hpre hm hE hk hA hst => ?_) ho hcl (fun j hj => (List.not_mem_nil hj).elim) (fun m hm => (List.not_mem_nil hm).elim) List.not_mem_nil hA hst
            have hS := (Ss.mk hE hst).env2 (e' := [(102, .int .u8 (rd out1178 (w64 ((out1178.length : Int) - x1147))))]) ⟨rfl, trivial⟩
            refine op_of_nth rfl ?_
            refine bsl (g := (ci .u8)) ([(rd out1178 (w64 ((out1178.length : Int) - x1147)))] : List Int) [.int .u8 (rd out1178 (w64 ((out1178.length : Int) - x1147)))] hS Tryd.runUnderlying30 Tryd.sizeOf5 X.el5 rfl rfl rfl (by simp [Value.cells]) rfl rfl rfl rfl rfl fun w A1188 c1189 f1190 hV1191 hS => ?_
            refine wpList_nil (then_n ?_)
            have hcl2 := hcl.cons (k := 18) (nth_get rfl) hpre
            have hmust := must_cons (k := 18) hm (chain (k := 18) hcl (nth_get rfl) hpre [(17, 18), (16, 17), (8, 16), (15, 16), (7, 8), (13, 15), (14, 15), (6, 7), (12, 13), (5, 6), (11, 12), (10, 11), (9, 10)] [] rfl (fun _ h => absurd h List.not_mem_nil))
            replace hst := hS.st
            have hav2 := hav.cons (vals' := [some (ptr b841 0), some (ptr b841 0), some (ptr b841 0), some (ptr b841 1), some (.slice A1176 out1178.length c1177), some (ptr b841 0), some (ptr b841 0), some (ptr b841 1), some (.slice A1176 out1178.length c1177), some (ptr b841 0), some (ptr b841 0), some (ptr b841 1), some (.slice A1176 out1178.length c1177), some (.int .i64 (out1178.length : Int)), some (.int .i64 x1147), some (.int .i64 (w64 ((out1178.length : Int) - x1147))), some (slp A1176 (Int.toNat (w64 ((out1178.length : Int) - x1147)) * 1)), some (.int .u8 (rd out1178 (w64 ((out1178.length : Int) - x1147)))), some (.slice A1188 ([(rd out1178 (w64 ((out1178.length : Int) - x1147)))] : List Int).length c1189), none, none, none, none]) (k := 18) ⟨rfl, rfl, rfl, rfl, rfl, rfl, rfl, rfl, rfl, rfl, rfl, rfl, rfl, rfl, rfl, rfl, rfl, rfl, trivial⟩ rfl
            replace hA := (hA.next hav (subV.get (l' := [some (ptr b841 0), some (ptr b841 0), some (ptr b841 0), some (ptr b841 1), some (.slice A1176 out1178.length c1177), some (ptr b841 0), some (ptr b841 0), some (ptr b841 1), some (.slice A1176 out1178.length c1177), some (ptr b841 0), some (ptr b841 0), some (ptr b841 1), some (.slice A1176 out1178.length c1177), some (.int .i64 (out1178.length : Int)), some (.int .i64 x1147), some (.int .i64 (w64 ((out1178.length : Int) - x1147))), some (slp A1176 (Int.toNat (w64 ((out1178.length : Int) - x1147)) * 1)), some (.int .u8 (rd out1178 (w64 ((out1178.length : Int) - x1147)))), some (.slice A1188 ([(rd out1178 (w64 ((out1178.length : Int) - x1147)))] : List Int).length c1189), none, none, none, none]) ⟨rfl, rfl, rfl, rfl, rfl, rfl, rfl, rfl, rfl, rfl, rfl, rfl, rfl, rfl, rfl, rfl, rfl, rfl, trivial⟩)).step rfl (nth_get rfl) hk rfl rfl rfl
            clear hm hav
            replace hcl := hcl2
            refine phase' (vals := [some (ptr b841 0), some (ptr b841 0), some (ptr b841 0), some (ptr b841 1), some (.slice A1176 out1178.length c1177), some (ptr b841 0), some (ptr b841 0), some (ptr b841 1), some (.slice A1176 out1178.length c1177), some (ptr b841 0), some (ptr b841 0), some (ptr b841 1), some (.slice A1176 out1178.length c1177), some (.int .i64 (out1178.length : Int)), some (.int .i64 x1147), some (.int .i64 (w64 ((out1178.length : Int) - x1147))), some (slp A1176 (Int.toNat (w64 ((out1178.length : Int) - x1147)) * 1)), some (.int .u8 (rd out1178 (w64 ((out1178.length : Int) - x1147)))), some (.slice A1188 ([(rd out1178 (w64 ((out1178.length : Int) - x1147)))] : List Int).length c1189), none, none, none, none]) 19 [18, 17, 16, 8, 15, 7, 13, 14, 6, 12, 5, 11, 10, 9] [0, 1, 2, 3, 4] rfl rfl rfl rfl (by exact ⟨nR rfl rfl rfl rfl rfl (by exact ovE (mv rfl) rfl), nR rfl rfl rfl rfl rfl (by exact ovE (mv rfl) rfl), nR rfl rfl rfl rfl rfl (by exact ovE (nck rfl) rfl), nR rfl rfl rfl rfl rfl (by exact ovE (fad rfl Tryd.runUnderlying44 rfl Tryd.sizeOf30 rfl) rfl), nR rfl rfl rfl rfl rfl (by exact ovE (ldb 5 rfl hB1182 rfl rfl Tryd.isAgg30) rfl), trivial⟩) (fun D l a w ho hcl hav hpre hm hE hk hA hst => ?_) ho hcl hav2 hmust (hav2.notin rfl) hA hst
            have hS := (Ss.mk hE hst).env2 (e' := [(89, .slice A1176 out1178.length c1177), (103, .slice A1188 ([(rd out1178 (w64 ((out1178.length : Int) - x1147)))] : List Int).length c1189)]) ⟨rfl, rfl, trivial⟩
            refine op_of_nth rfl ?_
            obtain ⟨hk1192, hM⟩ := wp_chk hM
            refine apV (ys := ([(rd out1178 (w64 ((out1178.length : Int) - x1147)))] : List Int)) 7 hS rfl rfl hV1180 rfl (hV1191.rd (i := 0) rfl) Tryd.runUnderlying30 Tryd.runUnderlying30 X.el5 (fun _ => rfl) rfl one_t5 hk1192 rfl fun zs1197 w A1193 c1194 f1195 hz hV1196 hS => ?_
            have hM := lt_to hz hM; clear hz
            refine wpList_nil (then_n ?_)
            have hcl2 := hcl.cons (k := 19) (nth_get rfl) hpre
            have hmust := must_cons (k := 19) hm (chain (k := 19) hcl (nth_get rfl) hpre [(4, 19), (18, 19), (3, 4), (17, 18), (2, 3), (16, 17), (1, 2), (8, 16), (15, 16), (7, 8), (13, 15), (14, 15), (6, 7), (12, 13), (5, 6), (11, 12), (10, 11), (9, 10)] [] rfl (fun _ h => absurd h List.not_mem_nil))
            replace hst := hS.st
            have hav2 := hav.cons (vals' := [some (ptr b841 0), some (ptr b841 0), some (ptr b841 0), some (ptr b841 1), some (.slice A1176 out1178.length c1177), some (ptr b841 0), some (ptr b841 0), some (ptr b841 1), some (.slice A1176 out1178.length c1177), some (ptr b841 0), some (ptr b841 0), some (ptr b841 1), some (.slice A1176 out1178.length c1177), some (.int .i64 (out1178.length : Int)), some (.int .i64 x1147), some (.int .i64 (w64 ((out1178.length : Int) - x1147))), some (slp A1176 (Int.toNat (w64 ((out1178.length : Int) - x1147)) * 1)), some (.int .u8 (rd out1178 (w64 ((out1178.length : Int) - x1147)))), some (.slice A1188 ([(rd out1178 (w64 ((out1178.length : Int) - x1147)))] : List Int).length c1189), some (.slice A1193 zs1197.length c1194), some (ptr b841 0), some (ptr b841 1), none]) (k := 19) ⟨rfl, rfl, rfl, rfl, rfl, rfl, rfl, rfl, rfl, rfl, rfl, rfl, rfl, rfl, rfl, rfl, rfl, rfl, rfl, trivial⟩ rfl
            replace hA := (hA.next hav (subV.get (l' := [some (ptr b841 0), some (ptr b841 0), some (ptr b841 0), some (ptr b841 1), some (.slice A1176 out1178.length c1177), some (ptr b841 0), some (ptr b841 0), some (ptr b841 1), some (.slice A1176 out1178.length c1177), some (ptr b841 0), some (ptr b841 0), some (ptr b841 1), some (.slice A1176 out1178.length c1177), some (.int .i64 (out1178.length : Int)), some (.int .i64 x1147), some (.int .i64 (w64 ((out1178.length : Int) - x1147))), some (slp A1176 (Int.toNat (w64 ((out1178.length : Int) - x1147)) * 1)), some (.int .u8 (rd out1178 (w64 ((out1178.length : Int) - x1147)))), some (.slice A1188 ([(rd out1178 (w64 ((out1178.length : Int) - x1147)))] : List Int).length c1189), some (.slice A1193 zs1197.length c1194), some (ptr b841 0), some (ptr b841 1), none]) ⟨rfl, rfl, rfl, rfl, rfl, rfl, rfl, rfl, rfl, rfl, rfl, rfl, rfl, rfl, rfl, rfl, rfl, rfl, rfl, trivial⟩)).step rfl (nth_get rfl) hk rfl rfl rfl
            clear hm hav
            replace hcl := hcl2
            refine phase' (vals := [some (ptr b841 0), some (ptr b841 0), some (ptr b841 0), some (ptr b841 1), some (.slice A1176 out1178.length c1177), some (ptr b841 0), some (ptr b841 0), some (ptr b841 1), some (.slice A1176 out1178.length c1177), some (ptr b841 0), some (ptr b841 0), some (ptr b841 1), some (.slice A1176 out1178.length c1177), some (.int .i64 (out1178.length : Int)), some (.int .i64 x1147), some (.int .i64 (w64 ((out1178.length : Int) - x1147))), some (slp A1176 (Int.toNat (w64 ((out1178.length : Int) - x1147)) * 1)), some (.int .u8 (rd out1178 (w64 ((out1178.length : Int) - x1147)))), some (.slice A1188 ([(rd out1178 (w64 ((out1178.length : Int) - x1147)))] : List Int).length c1189), some (.slice A1193 zs1197.length c1194), some (ptr b841 0), some (ptr b841 1), none]) 22 [19, 4, 18, 3, 17, 2, 16, 1, 8, 15, 7, 13, 14, 6, 12, 5, 11, 10, 9, 18, 17, 16, 8, 15, 7, 13, 14, 6, 12, 5, 11, 10, 9] [0, 20, 21] rfl rfl rfl rfl (by exact ⟨nR rfl rfl rfl rfl rfl (by exact ovE (mv rfl) rfl), nR rfl rfl rfl rfl rfl (by exact ovE (nck rfl) rfl), nR rfl rfl rfl rfl rfl (by exact ovE (fad rfl Tryd.runUnderlying44 rfl Tryd.sizeOf30 rfl) rfl), trivial⟩) (fun D l a w ho hcl hav hpre hm hE hk hA hst => ?_) ho hcl hav2 hmust (hav2.notin rfl) hA hst
            have hS := (Ss.mk hE hst).env2 (e' := [(104, .slice A1193 zs1197.length c1194), (106, ptr b841 1)]) ⟨rfl, rfl, trivial⟩
            refine op_of_nth rfl ?_
            refine sto 5 ([ptr b844 0, .slice A1193 zs1197.length c1194, .int .i64 r840.limit_]) hS rfl rfl hB1182 rfl rfl rfl rfl Tryd.sizeOf30 fun w f1198 hB1199 hS => ?_
            refine wpList_nil (then_n ?_)
            have hcl2 := hcl.cons (k := 22) (nth_get rfl) hpre
            have hmust := must_cons (k := 22) hm (chain (k := 22) hcl (nth_get rfl) hpre [(0, 22), (1, 22), (2, 22), (3, 22), (4, 22), (5, 22), (6, 22), (7, 22), (8, 22), (9, 22), (10, 22), (11, 22), (12, 22), (13, 22), (14, 22), (15, 22), (16, 22), (17, 22), (18, 22), (19, 22), (21, 22), (20, 21)] [] rfl (fun _ h => absurd h List.not_mem_nil))
            replace hst := hS.st
            have hav2 := hav.cons (vals' := [some (ptr b841 0), some (ptr b841 0), some (ptr b841 0), some (ptr b841 1), some (.slice A1176 out1178.length c1177), some (ptr b841 0), some (ptr b841 0), some (ptr b841 1), some (.slice A1176 out1178.length c1177), some (ptr b841 0), some (ptr b841 0), some (ptr b841 1), some (.slice A1176 out1178.length c1177), some (.int .i64 (out1178.length : Int)), some (.int .i64 x1147), some (.int .i64 (w64 ((out1178.length : Int) - x1147))), some (slp A1176 (Int.toNat (w64 ((out1178.length : Int) - x1147)) * 1)), some (.int .u8 (rd out1178 (w64 ((out1178.length : Int) - x1147)))), some (.slice A1188 ([(rd out1178 (w64 ((out1178.length : Int) - x1147)))] : List Int).length c1189), some (.slice A1193 zs1197.length c1194), some (ptr b841 0), some (ptr b841 1), some undef]) (k := 22) ⟨rfl, rfl, rfl, rfl, rfl, rfl, rfl, rfl, rfl, rfl, rfl, rfl, rfl, rfl, rfl, rfl, rfl, rfl, rfl, rfl, rfl, rfl, trivial⟩ rfl
            replace hA := (hA.next hav (subV.get (l' := [some (ptr b841 0), some (ptr b841 0), some (ptr b841 0), some (ptr b841 1), some (.slice A1176 out1178.length c1177), some (ptr b841 0), some (ptr b841 0), some (ptr b841 1), some (.slice A1176 out1178.length c1177), some (ptr b841 0), some (ptr b841 0), some (ptr b841 1), some (.slice A1176 out1178.length c1177), some (.int .i64 (out1178.length : Int)), some (.int .i64 x1147), some (.int .i64 (w64 ((out1178.length : Int) - x1147))), some (slp A1176 (Int.toNat (w64 ((out1178.length : Int) - x1147)) * 1)), some (.int .u8 (rd out1178 (w64 ((out1178.length : Int) - x1147)))), some (.slice A1188 ([(rd out1178 (w64 ((out1178.length : Int) - x1147)))] : List Int).length c1189), some (.slice A1193 zs1197.length c1194), some (ptr b841 0), some (ptr b841 1), some undef]) ⟨rfl, rfl, rfl, rfl, rfl, rfl, rfl, rfl, rfl, rfl, rfl, rfl, rfl, rfl, rfl, rfl, rfl, rfl, rfl, rfl, rfl, rfl, trivial⟩)).stepN (i := 22) (nth_get rfl) rfl
            clear hm hav
            replace hcl := hcl2
            refine phaseE (vals := [some (ptr b841 0), some (ptr b841 0), some (ptr b841 0), some (ptr b841 1), some (.slice A1176 out1178.length c1177), some (ptr b841 0), some (ptr b841 0), some (ptr b841 1), some (.slice A1176 out1178.length c1177), some (ptr b841 0), some (ptr b841 0), some (ptr b841 1), some (.slice A1176 out1178.length c1177), some (.int .i64 (out1178.length : Int)), some (.int .i64 x1147), some (.int .i64 (w64 ((out1178.length : Int) - x1147))), some (slp A1176 (Int.toNat (w64 ((out1178.length : Int) - x1147)) * 1)), some (.int .u8 (rd out1178 (w64 ((out1178.length : Int) - x1147)))), some (.slice A1188 ([(rd out1178 (w64 ((out1178.length : Int) - x1147)))] : List Int).length c1189), some (.slice A1193 zs1197.length c1194), some (ptr b841 0), some (ptr b841 1), some undef]) [22, 0, 1, 2, 3, 4, 5, 6, 7, 8, 9, 10, 11, 12, 13, 14, 15, 16, 17, 18, 19, 21, 20, 19, 4, 18, 3, 17, 2, 16, 1, 8, 15, 7, 13, 14, 6, 12, 5, 11, 10, 9, 18, 17, 16, 8, 15, 7, 13, 14, 6, 12, 5, 11, 10, 9] [] rfl rfl rfl trivial (fun a w hS => ?_) ho hcl hmust hA hst
            replace hS := hS.env2 (e' := [(0, ptr b841 0), (1, ptr b852 0), (2, ptr b861 0), (9, .int .i64 x1147), (82, .int .i64 x1138), (83, .int .i64 v1183)]) ⟨rfl, rfl, rfl, rfl, rfl, rfl, trivial⟩
            refine blk_n (then_n ?_)
            refine wp_region_list ?_
            refine st1 hS (bin rfl rfl rfl) rfl fun a w hS => ?_
            refine st1 hS (mv rfl) rfl fun a w hS => ?_
            refine wpList_nil ?_
            refine then_n ?_
            exact hJ1200 _ _ ⟨A1193, c1194, zs1197, f1195, f1198, (w64 (v1183 + (1 : Int))), hS.to [1, 2, 3, 4, 5, 6, 7] (by kernel_rfl) ⟨rfl, rfl, rfl, rfl, rfl, rfl, trivial⟩, hV1196, hB1199, hM⟩
          · refine wp_exit ?_
            refine then_ex (then_ex (blk_same (blk_n (then_n ?_))))
            exact hJ1201 _ _ ⟨at_1148, f1149, A1176, c1177, out1178, f1179, f1181, hS.to [0, 1, 2, 3, 4, 5, 6] (by kernel_rfl) ⟨rfl, rfl, rfl, trivial⟩, h1150, hV1180, hB1182, hM⟩

theorem inflate_reader_row_c {H : Imm} {F : List Frag} {w : World} {R : Ending → World → Prop} {kr : ((List Int) × Int) → Prop} {kp : Value → Prop} (hG : Gl H) (K : Nat) (r1322 : T_inflate_reader) (n_1333 : Int) (t1334 : T_huff_Table) (b1323 : Nat) (f1324 : Frag) (b1326 : Nat) (f1327 : Frag) (A1329 : Option Addr) (c1330 : Nat) (f1331 : Frag) (b1335 : Nat) (f1336 : Frag) (A1339 : Option Addr) (c1340 : Nat) (f1341 : Frag) (hB1325 : Blk f1324 b1323 ([ptr b1326 0, .slice A1329 r1322.out_.length c1330, .int .i64 r1322.limit_]) 44) (hB1328 : Blk f1327 b1326 ([.int .i64 r1322.Reader_.place_.at_, str r1322.Reader_.text_]) 57) (hV1332 : Vec 5 (ci .u8) 1 A1329 r1322.out_ c1330 f1331) (hB1337 : Blk f1336 b1335 ((t1334.counts_.flatMap (ci .i64)) ++ [.slice A1339 t1334.symbols_.length c1340]) 110) (hl1338 : t1334.counts_.length = 16) (hV1342 : Vec 3 (ci .i64) 1 A1339 t1334.symbols_ c1340 f1341)
    (hS : St w H [f1324, f1327, f1331, f1336, f1341] F) (hm : (inflate_reader_row.m K r1322 n_1333 t1334).wp kr kp)
    (hret : ∀ (A1516 : Option Addr) (c1517 : Nat) (x1518 : (List Int)) (f1519 : Frag) (at_1521 : Int) (f1522 : Frag) (w : World), kr (x1518, at_1521) → (Vec 3 (ci .i64) 1 A1516 x1518 c1517 f1519) → (Blk f1522 b1326 ([.int .i64 at_1521, str r1322.Reader_.text_]) 57) → St w H [f1519, f1336, f1341, f1324, f1522, f1331] F → R (.returned (.slice A1516 x1518.length c1517)) w)
    (hpan : ∀ v w, kp v → St w H [] F → R (.panicked [⟨v, false, false⟩]) w) :
    Calls Tryd.prog 39 ⟨[ptr b1323 0, .int .i64 n_1333, ptr b1335 0]⟩ w R := by
  refine enter Tryd.func39 rfl Tryd.ntmps39 rfl hS fun a w hS => ?_
  have hM := hm; clear hm
  rw [inflate_reader_row.m] at hM
  refine wp_seq ?_
  refine wp_region_list ?_
  refine st1 hS (asg rfl) rfl fun a w hS => ?_
  obtain ⟨f1343, hV1344, hS⟩ := hS.nilV 3 (ci .i64) 1
  refine wpList_nil ?_
  refine then_n ?_
  refine wp_seq ?_
  refine wp_region_list ?_
  refine st1 hS (asg rfl) rfl fun a w hS => ?_
  obtain ⟨f1345, hV1346, hS⟩ := hS.nilV 3 (ci .i64) 1
  refine wpList_nil ?_
  refine then_n ?_
  refine wp_seq ?_
  refine wp_block ?_
  refine s_loopJ (fun k1439 a w => ∃ (at_1431 : Int) (f1432 : Frag) (A1434 : Option Addr) (c1435 : Nat) (l_1436 : (List Int)) (f1437 : Frag), Ss 63 [] [(0, ptr b1323 0), (1, .int .i64 n_1333), (2, ptr b1335 0), (7, .slice A1434 l_1436.length c1435)] H [f1336, f1341, f1324, f1432, f1331, f1437] F a w ∧ (Blk f1432 b1326 ([.int .i64 at_1431, str r1322.Reader_.text_]) 57) ∧ (Vec 3 (ci .i64) 1 A1434 l_1436 c1435 f1437) ∧ (inflate_reader_row.l1 K r1322 n_1333 t1334 k1439 at_1431 l_1436).wp kr kp) K ?_ ?_ ?_
  · exact ⟨r1322.Reader_.place_.at_, f1327, none, 0, ([] : List Int), f1345, hS.to [5, 6, 2, 3, 4, 0] (by kernel_rfl) ⟨rfl, rfl, rfl, rfl, trivial⟩, hB1328, hV1346, hM⟩
  · intro a w hI; obtain ⟨_, _, _, _, _, _, _, _, _, hM⟩ := hI; exact hM
  · intro k1439 a w hI J1515 hJ1515
    obtain ⟨at_1431, f1432, A1434, c1435, l_1436, f1437, hS, hB1433, hV1438, hM⟩ := hI
    rw [inflate_reader_row.l1] at hM
    refine wp_seq ?_
    refine wp_seq ?_
    refine wp_region_list ?_
    refine st1 hS (mv rfl) rfl fun a w hS => ?_
    refine st1 hS (lenV rfl Tryd.runUnderlying67) rfl fun a w hS => ?_
    refine st1 hS (mv rfl) rfl fun a w hS => ?_
    refine st1 hS (bin rfl rfl rfl) rfl fun a w hS => ?_
    refine wpList_nil ?_
    refine then_n ?_
    refine s_cond hS rfl hM (fun hb1440 hM => ?_) (fun hb1440 hM => ?_)
    · refine wp_skip ?_
      refine then_n ?_
      refine wp_block ?_
      refine wp_seq ?_
      refine wp_region_list ?_
      refine st1 hS (mv rfl) rfl fun a w hS => ?_
      refine st1 hS (mv rfl) rfl fun a w hS => ?_
      refine s_call hS rfl Tryd.call36 (inflate_reader_symbol_c hG K (T_inflate_reader.mk (T_bits_Reader.mk (T_bits_place.mk at_1431) r1322.Reader_.text_) r1322.out_ r1322.limit_) t1334 b1323 f1324 b1326 f1432 A1329 c1330 f1331 b1335 f1336 A1339 c1340 f1341 hB1325 hB1433 hV1332 hB1337 hl1338 hV1342 (hS.st.part 5 [2, 3, 4, 0, 1, 5] (by kernel_rfl)) (wp_bind hM) (fun x1441 at_1442 f1443 w hM h1444 hst => s_back hS.ev hst.appF rfl fun hS => ?_) (fun v w hk hst => s_pan (then_pan (blk_pan (then_pan (blk_pan (then_pan (⟨hS.ev.defs, hpan _ _ hk hst.appF.frame⟩))))))))
      replace hS : Ss _ _ _ H [f1336, f1341, f1324, f1443, f1331, f1437] F _ _ := hS
      refine st1 hS (asg rfl) rfl fun a w hS => ?_
      refine wpList_nil ?_
      refine then_n ?_
      refine wp_seq ?_
      refine wp_region_list ?_
      refine st1 hS (asg rfl) rfl fun a w hS => ?_
      refine st1 hS (asg rfl) rfl fun a w hS => ?_
      refine wpList_nil ?_
      refine then_n ?_
      refine seq_joinJ (fun a w => ∃ (at_1471 : Int) (f1472 : Frag) (value1474 : Int) (times1475 : Int), Ss 63 [] [(0, ptr b1323 0), (1, .int .i64 n_1333), (2, ptr b1335 0), (7, .slice A1434 l_1436.length c1435), (9, .int .i64 value1474), (10, .int .i64 times1475)] H [f1336, f1341, f1324, f1472, f1331, f1437] F a w ∧ (Blk f1472 b1326 ([.int .i64 at_1471, str r1322.Reader_.text_]) 57) ∧ (inflate_reader_row.j2 K (inflate_reader_row.l1 K r1322 n_1333 t1334 k1439) n_1333 l_1436 at_1471 value1474 times1475).wp kr kp) (fun J1476 hJ1476 => ?_) ?_
      · refine wp_block ?_
        refine wp_seq ?_
        refine wp_region_list ?_
        refine st1 hS (mv rfl) rfl fun a w hS => ?_
        refine st1 hS (bin rfl rfl rfl) rfl fun a w hS => ?_
        refine st1x (v := Value.bool) hS (asg rfl) rfl fun v1445 a w hz hS => ?_
        have hM := lt_to hz hM; clear hz
        refine wpList_nil ?_
        refine then_n ?_
        refine s_cond hS rfl hM (fun hb1446 hM => ?_) (fun hb1446 hM => ?_)
        · refine wp_region_list ?_
          refine st1 hS (mv rfl) rfl fun a w hS => ?_
          refine st1 hS (asg rfl) rfl fun a w hS => ?_
          refine wpList_nil ?_
          refine blk_n (then_n ?_)
          exact hJ1476 _ _ ⟨at_1442, f1443, x1441, (1 : Int), hS.to [0, 1, 2, 3, 4, 5] (by kernel_rfl) ⟨rfl, rfl, rfl, rfl, rfl, rfl, trivial⟩, h1444, hM⟩
        · refine wp_seq ?_
          refine wp_region_list ?_
          refine st1 hS (mv rfl) rfl fun a w hS => ?_
          refine st1 hS (bin rfl rfl rfl) rfl fun a w hS => ?_
          refine st1x (v := Value.bool) hS (asg rfl) rfl fun v1447 a w hz hS => ?_
          have hM := lt_to hz hM; clear hz
          refine wpList_nil ?_
          refine then_n ?_
          refine s_cond hS rfl hM (fun hb1448 hM => ?_) (fun hb1448 hM => ?_)
          · refine wp_seq ?_
            refine wp_region_list ?_
            refine st1 hS (mv rfl) rfl fun a w hS => ?_
            refine st1 hS (lenV rfl Tryd.runUnderlying67) rfl fun a w hS => ?_
            refine st1 hS (bin rfl rfl rfl) rfl fun a w hS => ?_
            refine s_call hS rfl Tryd.call26 (inflate_refuse_c hG K ((l_1436.length : Int) == (0 : Int)) (3 : Int) (hS.st.part 0 [0, 1, 2, 3, 4, 5] (by kernel_rfl)) (wp_bind hM) (fun  w hM  hst => s_back hS.ev hst.appF rfl fun hS => ?_) (fun v w hk hst => s_pan (then_pan (blk_pan (then_pan (blk_pan (then_pan (blk_pan (then_pan (⟨hS.ev.defs, hpan _ _ hk hst.appF.frame⟩))))))))))
            replace hS : Ss _ _ _ H [f1336, f1341, f1324, f1443, f1331, f1437] F _ _ := hS
            refine wpList_nil ?_
            refine then_n ?_
            obtain ⟨hk1450, hM⟩ := wp_chk hM
            refine draw_begin (vals := [some (.slice A1434 l_1436.length c1435), some (.slice A1434 l_1436.length c1435), some (.int .i64 (l_1436.length : Int)), some (.int .i64 (w64 ((l_1436.length : Int) - (1 : Int)))), some (slp A1434 (Int.toNat (w64 ((l_1436.length : Int) - (1 : Int))) * 1)), some (.int .i64 (rd l_1436 (w64 ((l_1436.length : Int) - (1 : Int))))), some (ptr b1323 0), none, none, none, none]) hS mixed rfl ?_
            intro l w ho hcl hA hst
            refine phase' (vals := [some (.slice A1434 l_1436.length c1435), some (.slice A1434 l_1436.length c1435), some (.int .i64 (l_1436.length : Int)), some (.int .i64 (w64 ((l_1436.length : Int) - (1 : Int)))), some (slp A1434 (Int.toNat (w64 ((l_1436.length : Int) - (1 : Int))) * 1)), some (.int .i64 (rd l_1436 (w64 ((l_1436.length : Int) - (1 : Int))))), some (ptr b1323 0), none, none, none, none]) 7 [] [0, 1, 2, 3, 4, 5, 6] rfl rfl rfl rfl (by exact ⟨nR rfl rfl rfl rfl rfl (by exact ovE (mv rfl) rfl), nR rfl rfl rfl rfl rfl (by exact ovE (mv rfl) rfl), nR rfl rfl rfl rfl rfl (by exact ovE (lenV rfl Tryd.runUnderlying67) rfl), nR rfl rfl rfl rfl rfl (by exact ovE (bin rfl rfl rfl) rfl), nR rfl rfl rfl rfl rfl (by exact ovE (ixV rfl rfl Tryd.runUnderlying67 Tryd.sizeOf3 (hV1438.rd (i := 5) rfl) (fun _ => rfl) rfl hk1450) rfl), nR rfl rfl rfl rfl rfl (by exact ovE (ldV0 rfl (hV1438.rd (i := 5) rfl) (fun _ => rfl) hk1450 rfl Tryd.isAgg3) rfl), nR rfl rfl rfl rfl rfl (by exact ovE (mv rfl) rfl), trivial⟩) (fun D l a w ho hcl hav hpre hm hE hk hA hst => ?_) ho hcl (fun j hj => (List.not_mem_nil hj).elim) (fun m hm => (List.not_mem_nil hm).elim) List.not_mem_nil hA hst
            have hS := (Ss.mk hE hst).env2 (e' := [(38, ptr b1323 0)]) ⟨rfl, trivial⟩
            refine op_of_nth rfl ?_
            refine s_call hS rfl Tryd.call21 (inflate_reader_number_c hG K (T_inflate_reader.mk (T_bits_Reader.mk (T_bits_place.mk at_1442) r1322.Reader_.text_) r1322.out_ r1322.limit_) (2 : Int) b1323 f1324 b1326 f1443 A1329 c1330 f1331 hB1325 h1444 hV1332 (hS.st.part 3 [2, 3, 4, 0, 1, 5] (by kernel_rfl)) (wp_bind hM) (fun x1451 at_1452 f1453 w hM h1454 hst => s_back hS.ev hst.appF rfl fun hS => ?_) (fun v w hk hst => s_pan (then_pan (blk_pan (then_pan (blk_pan (then_pan (blk_pan (then_pan (⟨hS.ev.defs, hpan _ _ hk hst.appF.frame⟩))))))))))
            replace hS : Ss _ _ _ H [f1324, f1453, f1331, f1336, f1341, f1437] F _ _ := hS
            refine wpList_nil (then_n ?_)
            have hcl2 := hcl.cons (k := 7) (nth_get rfl) hpre
            have hmust := must_cons (k := 7) hm (chain (k := 7) hcl (nth_get rfl) hpre [(6, 7)] [] rfl (fun _ h => absurd h List.not_mem_nil))
            replace hst := hS.st
            obtain ⟨value1455, hz1456⟩ : ∃ x, x = (rd l_1436 (w64 ((l_1436.length : Int) - (1 : Int)))) := ⟨_, rfl⟩
            replace hM := lt_to hz1456 hM
            obtain ⟨times1457, hz1458⟩ : ∃ x, x = (w64 ((3 : Int) + x1451)) := ⟨_, rfl⟩
            replace hM := lt_to hz1458 hM
            have hav2 := hav.cons (vals' := [some (.slice A1434 l_1436.length c1435), some (.slice A1434 l_1436.length c1435), some (.int .i64 (l_1436.length : Int)), some (.int .i64 (w64 ((l_1436.length : Int) - (1 : Int)))), some (slp A1434 (Int.toNat (w64 ((l_1436.length : Int) - (1 : Int))) * 1)), some (.int .i64 (rd l_1436 (w64 ((l_1436.length : Int) - (1 : Int))))), some (ptr b1323 0), some (.int .i64 x1451), some (.int .i64 (w64 ((3 : Int) + x1451))), some (.int .i64 value1455), some (.int .i64 times1457)]) (k := 7) ⟨rfl, rfl, rfl, rfl, rfl, rfl, rfl, trivial⟩ rfl
            replace hA := (hA.next hav (subV.get (l' := [some (.slice A1434 l_1436.length c1435), some (.slice A1434 l_1436.length c1435), some (.int .i64 (l_1436.length : Int)), some (.int .i64 (w64 ((l_1436.length : Int) - (1 : Int)))), some (slp A1434 (Int.toNat (w64 ((l_1436.length : Int) - (1 : Int))) * 1)), some (.int .i64 (rd l_1436 (w64 ((l_1436.length : Int) - (1 : Int))))), some (ptr b1323 0), some (.int .i64 x1451), some (.int .i64 (w64 ((3 : Int) + x1451))), some (.int .i64 value1455), some (.int .i64 times1457)]) ⟨rfl, rfl, rfl, rfl, rfl, rfl, rfl, trivial⟩)).step rfl (nth_get rfl) hk rfl rfl rfl
            clear hm hav
            replace hcl := hcl2
            refine phaseE (vals := [some (.slice A1434 l_1436.length c1435), some (.slice A1434 l_1436.length c1435), some (.int .i64 (l_1436.length : Int)), some (.int .i64 (w64 ((l_1436.length : Int) - (1 : Int)))), some (slp A1434 (Int.toNat (w64 ((l_1436.length : Int) - (1 : Int))) * 1)), some (.int .i64 (rd l_1436 (w64 ((l_1436.length : Int) - (1 : Int))))), some (ptr b1323 0), some (.int .i64 x1451), some (.int .i64 (w64 ((3 : Int) + x1451))), some (.int .i64 value1455), some (.int .i64 times1457)]) [7, 6] [0, 1, 2, 3, 4, 5, 8, 9, 10] rfl rfl rfl (by exact ⟨nR rfl rfl rfl rfl rfl (by exact ovE (mv rfl) rfl), nR rfl rfl rfl rfl rfl (by exact ovE (mv rfl) rfl), nR rfl rfl rfl rfl rfl (by exact ovE (lenV rfl Tryd.runUnderlying67) rfl), nR rfl rfl rfl rfl rfl (by exact ovE (bin rfl rfl rfl) rfl), nR rfl rfl rfl rfl rfl (by exact ovE (ixV rfl rfl Tryd.runUnderlying67 Tryd.sizeOf3 (hV1438.rd (i := 5) rfl) (fun _ => rfl) rfl hk1450) rfl), nR rfl rfl rfl rfl rfl (by exact ovE (ldV0 rfl (hV1438.rd (i := 5) rfl) (fun _ => rfl) hk1450 rfl Tryd.isAgg3) rfl), nR rfl rfl rfl rfl rfl (by exact ovE (bin rfl rfl rfl) rfl), nR rfl rfl rfl rfl rfl (by exact ovE (asg rfl) (congrArg (Value.int .i64) hz1456.symm)), nR rfl rfl rfl rfl rfl (by exact ovE (asg rfl) (congrArg (Value.int .i64) hz1458.symm)), trivial⟩) (fun a w hS => ?_) ho hcl hmust hA hst
            replace hS := hS.env2 (e' := [(0, ptr b1323 0), (1, .int .i64 n_1333), (2, ptr b1335 0), (7, .slice A1434 l_1436.length c1435), (9, .int .i64 value1455), (10, .int .i64 times1457)]) ⟨rfl, rfl, rfl, rfl, rfl, rfl, trivial⟩
            refine blk_n (then_n ?_)
            exact hJ1476 _ _ ⟨at_1452, f1453, value1455, times1457, hS.to [3, 4, 0, 1, 2, 5] (by kernel_rfl) ⟨rfl, rfl, rfl, rfl, rfl, rfl, trivial⟩, h1454, hM⟩
          · refine wp_seq ?_
            refine wp_region_list ?_
            refine st1 hS (mv rfl) rfl fun a w hS => ?_
            refine st1 hS (bin rfl rfl rfl) rfl fun a w hS => ?_
            refine st1x (v := Value.bool) hS (asg rfl) rfl fun v1459 a w hz hS => ?_
            have hM := lt_to hz hM; clear hz
            refine wpList_nil ?_
            refine then_n ?_
            refine s_cond hS rfl hM (fun hb1460 hM => ?_) (fun hb1460 hM => ?_)
            · refine wp_region_list ?_
              refine st1 hS (mv rfl) rfl fun a w hS => ?_
              refine s_call hS rfl Tryd.call21 (inflate_reader_number_c hG K (T_inflate_reader.mk (T_bits_Reader.mk (T_bits_place.mk at_1442) r1322.Reader_.text_) r1322.out_ r1322.limit_) (3 : Int) b1323 f1324 b1326 f1443 A1329 c1330 f1331 hB1325 h1444 hV1332 (hS.st.part 3 [2, 3, 4, 0, 1, 5] (by kernel_rfl)) (wp_bind hM) (fun x1461 at_1462 f1463 w hM h1464 hst => s_back hS.ev hst.appF rfl fun hS => ?_) (fun v w hk hst => s_pan (blk_pan (then_pan (blk_pan (then_pan (blk_pan (then_pan (⟨hS.ev.defs, hpan _ _ hk hst.appF.frame⟩)))))))))
              replace hS : Ss _ _ _ H [f1324, f1463, f1331, f1336, f1341, f1437] F _ _ := hS
              refine st1 hS (bin rfl rfl rfl) rfl fun a w hS => ?_
              refine st1x (v := Value.int .i64) hS (asg rfl) rfl fun times1465 a w hz hS => ?_
              have hM := lt_to hz hM; clear hz
              refine wpList_nil ?_
              refine blk_n (then_n ?_)
              exact hJ1476 _ _ ⟨at_1462, f1463, (0 : Int), times1465, hS.to [3, 4, 0, 1, 2, 5] (by kernel_rfl) ⟨rfl, rfl, rfl, rfl, rfl, rfl, trivial⟩, h1464, hM⟩
            · refine wp_region_list ?_
              refine st1 hS (mv rfl) rfl fun a w hS => ?_
              refine s_call hS rfl Tryd.call21 (inflate_reader_number_c hG K (T_inflate_reader.mk (T_bits_Reader.mk (T_bits_place.mk at_1442) r1322.Reader_.text_) r1322.out_ r1322.limit_) (7 : Int) b1323 f1324 b1326 f1443 A1329 c1330 f1331 hB1325 h1444 hV1332 (hS.st.part 3 [2, 3, 4, 0, 1, 5] (by kernel_rfl)) (wp_bind hM) (fun x1466 at_1467 f1468 w hM h1469 hst => s_back hS.ev hst.appF rfl fun hS => ?_) (fun v w hk hst => s_pan (blk_pan (then_pan (blk_pan (then_pan (blk_pan (then_pan (⟨hS.ev.defs, hpan _ _ hk hst.appF.frame⟩)))))))))
              replace hS : Ss _ _ _ H [f1324, f1468, f1331, f1336, f1341, f1437] F _ _ := hS
              refine st1 hS (bin rfl rfl rfl) rfl fun a w hS => ?_
              refine st1x (v := Value.int .i64) hS (asg rfl) rfl fun times1470 a w hz hS => ?_
              have hM := lt_to hz hM; clear hz
              refine wpList_nil ?_
              refine blk_n (then_n ?_)
              exact hJ1476 _ _ ⟨at_1467, f1468, (0 : Int), times1470, hS.to [3, 4, 0, 1, 2, 5] (by kernel_rfl) ⟨rfl, rfl, rfl, rfl, rfl, rfl, trivial⟩, h1469, hM⟩
      · intro a w hI
        obtain ⟨at_1471, f1472, value1474, times1475, hS, hB1473, hM⟩ := hI
        rw [inflate_reader_row.j2] at hM
        refine wp_seq ?_
        refine wp_region_list ?_
        refine st1 hS (mv rfl) rfl fun a w hS => ?_
        refine st1 hS (mv rfl) rfl fun a w hS => ?_
        refine st1 hS (mv rfl) rfl fun a w hS => ?_
        refine st1 hS (lenV rfl Tryd.runUnderlying67) rfl fun a w hS => ?_
        refine st1 hS (bin rfl rfl rfl) rfl fun a w hS => ?_
        refine st1 hS (bin rfl rfl rfl) rfl fun a w hS => ?_
        refine s_call hS rfl Tryd.call26 (inflate_refuse_c hG K (decide (times1475 > (w64 (n_1333 - (l_1436.length : Int))))) (3 : Int) (hS.st.part 0 [0, 1, 2, 3, 4, 5] (by kernel_rfl)) (wp_bind hM) (fun  w hM  hst => s_back hS.ev hst.appF rfl fun hS => ?_) (fun v w hk hst => s_pan (then_pan (blk_pan (then_pan (blk_pan (then_pan (⟨hS.ev.defs, hpan _ _ hk hst.appF.frame⟩))))))))
        replace hS : Ss _ _ _ H [f1336, f1341, f1324, f1472, f1331, f1437] F _ _ := hS
        refine wpList_nil ?_
        refine then_n ?_
        refine wp_seq ?_
        refine wp_region_list ?_
        refine st1 hS (mv rfl) rfl fun a w hS => ?_
        refine st1 hS (mv rfl) rfl fun a w hS => ?_
        refine wpList_nil ?_
        refine then_n ?_
        refine wp_block ?_
        refine s_loopJ (fun k1502 a w => ∃ (A1496 : Option Addr) (c1497 : Nat) (l_1498 : (List Int)) (f1499 : Frag) (v1501 : Int), Ss 63 [] [(0, ptr b1323 0), (1, .int .i64 n_1333), (2, ptr b1335 0), (7, .slice A1496 l_1498.length c1497), (9, .int .i64 value1474), (54, .int .i64 times1475), (55, .int .i64 v1501)] H [f1336, f1341, f1324, f1472, f1331, f1499] F a w ∧ (Vec 3 (ci .i64) 1 A1496 l_1498 c1497 f1499) ∧ (inflate_reader_row.l3 K (inflate_reader_row.l1 K r1322 n_1333 t1334 k1439) at_1471 value1474 times1475 k1502 l_1498 v1501).wp kr kp) K ?_ ?_ ?_
        · exact ⟨A1434, c1435, l_1436, f1437, (0 : Int), hS.to [0, 1, 2, 3, 4, 5] (by kernel_rfl) ⟨rfl, rfl, rfl, rfl, rfl, rfl, rfl, trivial⟩, hV1438, hM⟩
        · intro a w hI; obtain ⟨_, _, _, _, _, _, _, hM⟩ := hI; exact hM
        · intro k1502 a w hI J1514 hJ1514
          obtain ⟨A1496, c1497, l_1498, f1499, v1501, hS, hV1500, hM⟩ := hI
          rw [inflate_reader_row.l3] at hM
          refine wp_seq ?_
          refine wp_region_list ?_
          refine st1 hS (bin rfl rfl rfl) rfl fun a w hS => ?_
          refine wpList_nil ?_
          refine then_n ?_
          refine wp_seq ?_
          refine s_cond hS rfl hM (fun hb1503 hM => ?_) (fun hb1503 hM => ?_)
          · refine wp_skip ?_
            refine then_n ?_
            refine wp_seq ?_
            refine wp_block ?_
            refine wp_region_list ?_
            refine st1 hS (mv rfl) rfl fun a w hS => ?_
            refine st1 hS (mv rfl) rfl fun a w hS => ?_
            refine bsl (g := (ci .i64)) ([value1474] : List Int) [.int .i64 value1474] hS Tryd.runUnderlying67 Tryd.sizeOf3 X.el3 rfl rfl rfl (by simp [Value.cells]) rfl rfl rfl rfl rfl fun w A1504 c1505 f1506 hV1507 hS => ?_
            obtain ⟨hk1508, hM⟩ := wp_chk hM
            refine apV (ys := ([value1474] : List Int)) 6 hS rfl rfl hV1500 rfl (hV1507.rd (i := 0) rfl) Tryd.runUnderlying67 Tryd.runUnderlying67 X.el3 (fun _ => rfl) rfl one_t3 hk1508 rfl fun zs1513 w A1509 c1510 f1511 hz hV1512 hS => ?_
            have hM := lt_to hz hM; clear hz
            refine st1 hS (asg rfl) rfl fun a w hS => ?_
            refine wpList_nil ?_
            refine blk_n (then_n ?_)
            refine wp_region_list ?_
            refine st1 hS (bin rfl rfl rfl) rfl fun a w hS => ?_
            refine st1 hS (mv rfl) rfl fun a w hS => ?_
            refine wpList_nil ?_
            refine then_n ?_
            exact hJ1514 _ _ ⟨A1509, c1510, zs1513, f1511, (w64 (v1501 + (1 : Int))), hS.to [1, 2, 3, 4, 5, 6] (by kernel_rfl) ⟨rfl, rfl, rfl, rfl, rfl, rfl, rfl, trivial⟩, hV1512, hM⟩
          · refine wp_exit ?_
            refine then_ex (then_ex (blk_same (blk_n (then_n ?_))))
            exact hJ1515 _ _ ⟨at_1471, f1472, A1496, c1497, l_1498, f1499, hS.to [0, 1, 2, 3, 4, 5] (by kernel_rfl) ⟨rfl, rfl, rfl, rfl, trivial⟩, hB1473, hV1500, hM⟩
    · refine wp_exit ?_
      refine then_ex (then_ex (blk_same (then_n ?_)))
      refine wp_seq ?_
      refine wp_region_list ?_
      refine st1 hS (mv rfl) rfl fun a w hS => ?_
      refine st1 hS (asg rfl) rfl fun a w hS => ?_
      refine wpList_nil ?_
      refine then_n ?_
      refine wp_ret ?_
      exact s_ret (rs := [6]) hS rfl rfl (hret A1434 c1435 l_1436 f1437 at_1431 f1432 w hM hV1438 hB1433 (hS.st.pick [5, 0, 1, 2, 3, 4] (by kernel_rfl)))
end Go.TrydS
